/- Parts of one proof: MakeX, EncA, EncB, Splice, EncC, EncD, RecA, EncE, DeckKey, RefTextA, RefTextB, FoldPlain, RefTextC, RefTextD, RefTextE, RefNameA, RefNameB, RefNameC, MakeZ, RefNameD. -/
import Derived.Test.YtoeplomdcannlaaGreatDoorPartRt4
import Derived.Laws.CopyRow
set_option linter.unusedSimpArgs false
set_option linter.unusedVariables false
namespace Go.Proofs.YtoeplomdcannlaaGreatDoor
section
set_option maxRecDepth 100000
open Go.RowKit
attribute [local go_sem] toList_mk mk_size str_append
def codesD : List (List UInt8) := [[83, 87, 49, 32, 49, 65, 65], [56, 48, 48, 49], [56, 48, 32, 48, 50], [97, 45, 49]]
def addrsD : List (List UInt8) := [[49, 50, 32, 77, 97, 105, 110, 32, 83, 116, 46], [77, 97, 105, 110, 32, 83, 116, 32, 49, 50], [80, 97, 114, 107, 32, 82, 100, 32, 51, 98], [77, 97, 105, 110, 32, 83, 116, 114, 101, 101, 116], [48, 48, 55, 32, 80, 97, 114, 107, 32, 114, 100]]
def peopleD : List (List UInt8) := [[114, 111, 98, 101, 114, 116, 32, 115, 109, 105, 116, 104], [98, 111, 98, 32, 115, 109, 105, 116, 104], [114, 117, 112, 101, 114, 116], [97, 110, 110, 97, 32, 109, 105, 108, 108, 101, 114], [97, 110, 110], [111, 110, 101, 105, 108, 108], [109, 97, 114, 105, 97, 32, 118, 97, 110, 32, 115, 109, 105, 116, 104], [112, 101, 116, 101, 114]]
theorem pick_le {D N : Nat} {L : List (List UInt8)} {w w' : World} {e : Ending} (h : PickPost D L w e w') (hL : (L.all fun t => decide (t.length ≤ N)) = true) : SomeText D N w e w' := by
  obtain ⟨l, he, hl, hm⟩ := h
  exact ⟨l, he, by simpa using List.all_eq_true.1 hL l hl, hm⟩
theorem people_ok {x : List UInt8} (h : x ∈ peopleD) : (∀ b ∈ x, okB b = true) ∧ x.length ≤ 15 := by
  have : (peopleD.all fun t => t.all okB && decide (t.length ≤ 15)) = true := by decide
  have := List.all_eq_true.1 this x h
  rw [Bool.and_eq_true, List.all_eq_true, decide_eq_true_iff] at this
  exact this
theorem written_len (y m d f : Int) : (writtenL y m d f).length = 10 := by
  unfold writtenL
  split
  · simp [dg_len]
  · split <;> simp [dg_len]
set_option maxHeartbeats 4000000 in
theorem raw_deal (D : Nat) (k : Int) (w : World) (h : DeckAt w D) :
    Calls Tryz.prog 35 #[.pointer (some ⟨D, 0, none⟩), .int .i64 k] w (SomeText D 64 w) := by
  have M0 := Lib.hid (Moved.start h); clear h
  by_cases h2 : k = 2
  · subst h2
    go_enter Tryz.func35, Tryz.ntmps35
    go_wp2_with fail
    refine (one_any D _ 8 M0.out.deck (by omega) (by omega)).mono ?_
    rintro e w1 ⟨u, rfl, mv⟩
    have M1 := Lib.hid (M0.out.trans mv); clear mv
    cases u
    · go_wp2_with fail
      refine (next_any D _ 2 M1.out.deck (by omega) (by omega)).mono ?_
      rintro e w2 ⟨y, rfl, y0, y1, mv⟩
      have M2 := Lib.hid (M1.out.trans mv); clear mv
      go_wp2_with fail
      refine (next_any D _ 3 M2.out.deck (by omega) (by omega)).mono ?_
      rintro e w3 ⟨m, rfl, m0, m1, mv⟩
      have M3 := Lib.hid (M2.out.trans mv); clear mv
      go_wp2_with fail
      refine (next_any D _ 3 M3.out.deck (by omega) (by omega)).mono ?_
      rintro e w4 ⟨d, rfl, d0, d1, mv⟩
      have M4 := Lib.hid (M3.out.trans mv); clear mv
      go_wp2_with fail
      refine (next_any D _ 3 M4.out.deck (by omega) (by omega)).mono ?_
      rintro e w5 ⟨f, rfl, f0, f1, mv⟩
      have M5 := Lib.hid (M4.out.trans mv); clear mv
      go_wp2_with fail
      refine (written_any (1980 + y) (1 + m) (1 + d) f _ (by omega) (by omega)).mono ?_
      rintro e w6 ⟨rfl, hb⟩
      have M6 := Lib.hid (M5.out.below hb); clear hb
      go_wp2_with fail
      go_ret
      exact ⟨_, rfl, by rw [written_len]; omega, M6.out⟩
    · go_wp2_with fail
      go_ret
      exact ⟨[], rfl, by simp, M1.out⟩
  · have e2 : (k == 2) = false := by simpa using h2
    by_cases h3 : k = 3
    · subst h3
      clear h2 e2
      go_enter Tryz.func35, Tryz.ntmps35
      go_wp2_with fail
      refine (one_any D _ 8 M0.out.deck (by omega) (by omega)).mono ?_
      rintro e w1 ⟨u, rfl, mv⟩
      have M1 := Lib.hid (M0.out.trans mv); clear mv
      cases u
      · go_wp2_with fail
        refine (pick_new D _ w codesD 4 rfl (by omega) (by omega) M1.out).mono ?_
        intro e w2 hp
        obtain ⟨x, rfl, hx, mv⟩ := pick_le (N := 64) hp (by decide)
        have HX := Lib.hid hx; have M2 := Lib.hid mv
        clear hx mv hp
        go_wp2_with fail
        go_ret
        exact ⟨x, rfl, HX.out, M2.out⟩
      · go_wp2_with fail
        go_ret
        exact ⟨[], rfl, by simp, M1.out⟩
    · have e3 : (k == 3) = false := by simpa using h3
      by_cases h4 : k = 4
      · subst h4
        clear h2 e2 h3 e3
        go_enter Tryz.func35, Tryz.ntmps35
        go_wp2_with fail
        refine (one_any D _ 8 M0.out.deck (by omega) (by omega)).mono ?_
        rintro e w1 ⟨u, rfl, mv⟩
        have M1 := Lib.hid (M0.out.trans mv); clear mv
        cases u
        · go_wp2_with fail
          refine (pick_new D _ w addrsD 5 rfl (by omega) (by omega) M1.out).mono ?_
          intro e w2 hp
          obtain ⟨x, rfl, hx, mv⟩ := pick_le (N := 64) hp (by decide)
          have HX := Lib.hid hx; have M2 := Lib.hid mv
          clear hx mv hp
          go_wp2_with fail
          go_ret
          exact ⟨x, rfl, HX.out, M2.out⟩
        · go_wp2_with fail
          go_ret
          exact ⟨[], rfl, by simp, M1.out⟩
      · have e4 : (k == 4) = false := by simpa using h4
        clear h2 h3 h4
        go_enter Tryz.func35, Tryz.ntmps35
        go_wp2_with fail
        refine (one_any D _ 8 M0.out.deck (by omega) (by omega)).mono ?_
        rintro e w1 ⟨u, rfl, mv⟩
        have M1 := Lib.hid (M0.out.trans mv); clear mv
        cases u
        · go_wp2_with fail
          refine (pick_new D _ w peopleD 8 rfl (by omega) (by omega) M1.out).mono ?_
          rintro e w2 ⟨x, rfl, hx, mv⟩
          obtain ⟨p1, p2⟩ := people_ok hx
          have P1 := Lib.hid p1; have M2 := Lib.hid mv
          clear hx mv p1
          go_wp2_with fail
          refine (dress_any D ⟨x.toArray⟩ _ M2.out.deck (by simpa using P1.out) (by rw [mk_size]; omega)).mono ?_
          rintro e w3 ⟨o, rfl, ho, mv⟩
          have M3 := Lib.hid (M2.out.trans mv)
          have HO := Lib.hid (show o.length ≤ 64 by have := ho.len; simp at this; omega)
          clear mv ho
          go_wp2_with fail
          go_ret
          exact ⟨o, rfl, HO.out, M3.out⟩
        · go_wp2_with fail
          go_ret
          exact ⟨[], rfl, by simp, M1.out⟩
end
section
set_option maxRecDepth 100000
open Go.RowKit
attribute [local go_sem] toList_mk mk_size str_append
theorem digs_len (i : Nat) (h : i < 100) : (Lib.decDigits i).length ≤ 2 := by
  have : ∀ j : Fin 100, (Lib.decDigits j).length ≤ 2 := by decide +kernel
  exact this ⟨i, h⟩
end
section
set_option maxRecDepth 100000
open Go.RowKit Cal
attribute [local go_sem] toList_mk mk_size str_append
/-- what a field's array needs: the schema, a normal record, valid parameters -/
structure FieldIn (s : SchemaL) (p : ParL) (vals : List (List UInt8)) (i : Nat) : Prop where
  par : ParOk p
  salt : p.salt < vals.length
  at_ : i < vals.length
  five : vals.length ≤ 5
  kind : (findN s i).2 = 0
  norm : normalB s i (vals.getD i []) = true
  short : ∀ v ∈ vals, v.length ≤ 64
/-- where encode.field stands: its boxes -/
structure FldAt (w : World) (vf vt vn vs : Value) (p : ParL) (k : Int × Int) (id ver : Int) (sv : Value) (W : World) : Prop where
  s : W.heap[w.heap.size]? = some (.cells #[vf, vt, vn, vs] 33 (0, 0))
  p : W.heap[w.heap.size + 1]? = some (.cells (parC p) 81 (0, 0))
  k : W.heap[w.heap.size + 2]? = some (.cells #[.int .u64 k.1, .int .u64 k.2] 45 (0, 0))
  r : W.heap[w.heap.size + 3]? = some (.cells #[.int .i64 id, .int .i64 ver, sv] 48 (0, 0))
  z : W.heap[w.heap.size + 4]? = some (.cells #[.int .i64 0, .slice none 0 0] 84 (0, 0))
  b : Below w.heap.size w W
theorem FldAt.below {w : World} {vf vt vn vs : Value} {p : ParL} {k : Int × Int} {id ver : Int} {sv : Value} {W W' : World} (h : FldAt w vf vt vn vs p k id ver sv W) (hb : Below W.heap.size W W') : FldAt w vf vt vn vs p k id ver sv W' :=
  ⟨blk_below hb (lt_of_blk h.1) h.1, blk_below hb (lt_of_blk h.2) h.2, blk_below hb (lt_of_blk h.3) h.3, blk_below hb (lt_of_blk h.4) h.4, blk_below hb (lt_of_blk h.5) h.5, h.6.trans (hb.mono h.6.size)⟩
theorem FldAt.start (w : World) (vf vt vn vs : Value) (p : ParL) (k : Int × Int) (id ver : Int) (sv : Value) : FldAt w vf vt vn vs p k id ver sv (((((w.alloc (.cells #[vf, vt, vn, vs] 33)).alloc (.cells (parC p) 81)).alloc (.cells #[.int .u64 k.1, .int .u64 k.2] 45)).alloc (.cells #[.int .i64 id, .int .i64 ver, sv] 48)).alloc (.cells #[.int .i64 0, .slice none 0 0] 84)) :=
  ⟨blk_old (blk_old (blk_old (blk_old (blk_new rfl)))), blk_old (blk_old (blk_old (blk_new (by simp)))), blk_old (blk_old (blk_new (by simp))), blk_old (blk_new (by simp)), blk_new (by simp),
    (((((Below.refl w.heap.size w).alloc (Nat.le_refl _) _).alloc (by simp) _).alloc (by simp; omega) _).alloc (by simp; omega) _).alloc (by simp; omega) _⟩
end
section
open Go.RowKit
section
variable {P : Program}
end
/-- blocks from B on, but for the row's own -/
def OffRow (B : Nat) (v : Value) (x : Nat) : Prop := B ≤ x ∧ some x ≠ v.ownBlock
section
variable {α : Type} {P : Program} {w : World} {ops : Array Oper} {rest : List Oper} {o : Oper} {a : Act} {Q : Exit → Act → World → Prop}
end
end
section
set_option maxRecDepth 100000
open Go.RowKit Cal
attribute [local go_sem] toList_mk mk_size str_append
/-- where the function stands that encoded hands on: what it has captured -/
structure CapAt (sb kb rb : Nat) (vf vt vn vs : Value) (s : SchemaL) (k : Int × Int) (id ver : Int) (sv : Value) (vals : List (List UInt8)) (w : World) : Prop where
  bs : w.heap[sb]? = some (.cells #[vf, vt, vn, vs] 33 (0, 0))
  bk : w.heap[kb]? = some (.cells #[.int .u64 k.1, .int .u64 k.2] 45 (0, 0))
  br : w.heap[rb]? = some (.cells #[.int .i64 id, .int .i64 ver, sv] 48 (0, 0))
  sch : SchemaAt w Any1 vf vt vn vs s
  val : Vec w Any1 1 encS sv vals
theorem CapAt.below {sb kb rb : Nat} {vf vt vn vs : Value} {s : SchemaL} {k : Int × Int} {id ver : Int} {sv : Value} {vals : List (List UInt8)} {w w' : World} (h : CapAt sb kb rb vf vt vn vs s k id ver sv vals w) (hb : Below w.heap.size w w') : CapAt sb kb rb vf vt vn vs s k id ver sv vals w' :=
  ⟨blk_below hb (lt_of_blk h.bs) h.bs, blk_below hb (lt_of_blk h.bk) h.bk, blk_below hb (lt_of_blk h.br) h.br, h.sch.below hb, h.val.below hb⟩
structure BV where
  len : Int
  a : Option Addr
  n : Nat
  c : Nat
abbrev encBV (x : BV) : List Value := [.int .i64 x.len, .slice x.a x.n x.c]
/-- arrays whose words lie in blocks of S -/
def BitsAll (w : World) (S : Nat → Prop) (C : List BV) (L : List BitsL) : Prop := C.length = L.length ∧ ∀ n (h1 : n < C.length) (h2 : n < L.length), BitsAt w S (.agg (encBV C[n]).toArray) L[n]
theorem BitsAt.below {w w' : World} {S : Nat → Prop} {v : Value} {b : BitsL} (h : BitsAt w S v b) (hb : Below w.heap.size w w') : BitsAt w' S v b := by
  obtain ⟨s, rfl, hv⟩ := h; exact ⟨s, rfl, hv.below hb⟩
theorem BitsAll.below {w w' : World} {S : Nat → Prop} {C : List BV} {L : List BitsL} (h : BitsAll w S C L) (hb : Below w.heap.size w w') : BitsAll w' S C L := ⟨h.1, fun n h1 h2 => (h.2 n h1 h2).below hb⟩
theorem BitsAll.snoc {w : World} {S : Nat → Prop} {C : List BV} {L : List BitsL} {c : BV} {b : BitsL} (h : BitsAll w S C L) (hc : BitsAt w S (.agg (encBV c).toArray) b) : BitsAll w S (C ++ [c]) (L ++ [b]) := by
  refine ⟨by simp [h.1], fun n h1 h2 => ?_⟩
  by_cases hn : n < C.length
  · rw [List.getElem_append_left hn, List.getElem_append_left (by rw [← h.1]; exact hn)]; exact h.2 n _ _
  · have : n = C.length := by simp at h1; omega
    subst this
    rw [List.getElem_append_right (Nat.le_refl _), List.getElem_append_right (by rw [h.1]; exact Nat.le_refl _)]
    simpa using hc
theorem BitsAt.form {w : World} {S : Nat → Prop} {v : Value} {b : BitsL} (h : BitsAt w S v b) : ∃ c : BV, v = .agg (encBV c).toArray ∧ BitsAt w S (.agg (encBV c).toArray) b := by
  obtain ⟨s, rfl, hv⟩ := h
  obtain ⟨a, cap, rfl⟩ := hv.slice
  exact ⟨⟨b.len, a, _, cap⟩, rfl, _, rfl, hv⟩
theorem BitsAt.weaken {w : World} {S T : Nat → Prop} {v : Value} {b : BitsL} (h : BitsAt w S v b) (hS : ∀ x, S x → T x) : BitsAt w T v b := by
  obtain ⟨s, rfl, hv⟩ := h
  exact ⟨s, rfl, hv.move (Nat.le_refl _) fun x _ hx => ⟨rfl, hS x hx⟩⟩
theorem BitsAt.move {w w' : World} {S : Nat → Prop} {v : Value} {b : BitsL} (h : BitsAt w S v b) (hz : w.heap.size ≤ w'.heap.size) (hS : ∀ x, x < w.heap.size → S x → w'.heap[x]? = w.heap[x]?) : BitsAt w' S v b := by
  obtain ⟨s, rfl, hv⟩ := h
  exact ⟨s, rfl, hv.move hz fun x h1 h2 => ⟨hS x h1 h2, h2⟩⟩
theorem BitsAll.weaken {w : World} {S T : Nat → Prop} {C : List BV} {L : List BitsL} (h : BitsAll w S C L) (hS : ∀ x, S x → T x) : BitsAll w T C L := ⟨h.1, fun n h1 h2 => (h.2 n h1 h2).weaken hS⟩
theorem BitsAll.move {w w' : World} {S T : Nat → Prop} {C : List BV} {L : List BitsL} (h : BitsAll w S C L) (hz : w.heap.size ≤ w'.heap.size) (hS : ∀ x, x < w.heap.size → S x → w'.heap[x]? = w.heap[x]? ∧ T x) : BitsAll w' T C L :=
  ⟨h.1, fun n h1 h2 => by obtain ⟨s, e, hv⟩ := h.2 n h1 h2; exact ⟨s, e, hv.move hz hS⟩⟩
/-- a slice of arrays -/
def BitsVec (w : World) (S : Nat → Prop) (v : Value) (L : List BitsL) : Prop := ∃ C, Vec w S 2 encBV v C ∧ BitsAll w S C L
end
section
set_option maxRecDepth 100000
open Go.RowKit Cal
attribute [local go_sem] toList_mk mk_size str_append
theorem BitsVec.slice {w : World} {S : Nat → Prop} {v : Value} {L : List BitsL} (h : BitsVec w S v L) : ∃ a cap, v = .slice a L.length cap := by
  obtain ⟨C, hv, hc⟩ := h
  obtain ⟨a, cap, rfl⟩ := hv.slice
  exact ⟨a, cap, by rw [hc.1]⟩
theorem BitsVec.below {w w' : World} {S : Nat → Prop} {v : Value} {L : List BitsL} (h : BitsVec w S v L) (hb : Below w.heap.size w w') : BitsVec w' S v L := by
  obtain ⟨C, hv, hc⟩ := h; exact ⟨C, hv.below hb, hc.below hb⟩
theorem BitsVec.move {w w' : World} {S T : Nat → Prop} {v : Value} {L : List BitsL} (h : BitsVec w S v L) (hz : w.heap.size ≤ w'.heap.size) (hS : ∀ x, x < w.heap.size → S x → w'.heap[x]? = w.heap[x]? ∧ T x) : BitsVec w' T v L := by
  obtain ⟨C, hv, hc⟩ := h; exact ⟨C, hv.move hz hS, hc.move hz hS⟩
/-- an encoded record in memory: its three cells -/
def EncVal (w : World) (S : Nat → Prop) (v : Value) (e : EncL) : Prop := ∃ s, v = .agg #[.int .i64 e.id, .int .i64 e.ver, s] ∧ BitsVec w S s e.fields
/-- what encoding needs -/
structure EncIn (s : SchemaL) (P : List ParL) (vals : List (List UInt8)) : Prop where
  len : P.length = vals.length
  five : P.length ≤ 5
  fld : ∀ i, i < P.length → FieldIn s (P.getD i default) vals i
end
section
set_option maxRecDepth 100000
open Go.RowKit Cal
attribute [local go_sem] toList_mk mk_size str_append
set_option maxHeartbeats 1000000 in
theorem numbered_any (i v : Int) (w : World) :
    Calls Tryz.prog 82 #[.int .i64 i, .int .i64 v] w fun e w' => e = .returned (.bool (numberedB i v)) ∧ w = w' := by
  unfold numberedB
  cases e1 : decide ((1 : Int) ≤ i)
  · go_enter Tryz.func82, Tryz.ntmps82
    go_wp2_with fail
    go_ret
    exact ⟨rfl, rfl⟩
  · cases e2 : decide (i ≤ (1048576 : Int))
    · go_enter Tryz.func82, Tryz.ntmps82
      go_wp2_with fail
      go_ret
      exact ⟨rfl, rfl⟩
    · cases e3 : decide ((1 : Int) ≤ v)
      · go_enter Tryz.func82, Tryz.ntmps82
        go_wp2_with fail
        go_ret
        exact ⟨rfl, rfl⟩
      · go_enter Tryz.func82, Tryz.ntmps82
        go_wp2_with fail
        go_ret
        exact ⟨rfl, rfl⟩
set_option maxHeartbeats 4000000 in
theorem rchk_any (S : Nat → Prop) (vf vt vn vs : Value) (s : SchemaL) (r : RecL) (sv : Value) (w : World) (h : SchemaAt w S vf vt vn vs s) (hv : Vec w Any1 1 encS sv r.vals) (hs : ∀ x ∈ r.vals, x.length ≤ 1000000) (hn : r.vals.length ≤ 1000000) :
    Calls Tryz.prog 76 #[.agg #[vf, vt, vn, vs], .agg #[.int .i64 r.id, .int .i64 r.ver, sv]] w fun e w' => e = .returned (.int .i64 (checkI s r)) ∧ Below w.heap.size w w' := by
  obtain ⟨a, cap, rfl⟩ := hv.slice
  obtain ⟨af, cf, rfl⟩ := h.1.slice
  obtain ⟨id, ver, vals⟩ := r
  dsimp only at hv hs hn ⊢
  have hval : checkI s ⟨id, ver, vals⟩ = if (numberedB id ver && (vals.length == s.fields.length) && normA s 0 vals) = true then 0 else 7 := rfl
  obtain ⟨c, hc⟩ : ∃ c, checkI s ⟨id, ver, vals⟩ = c := ⟨_, rfl⟩
  rw [hc] at hval ⊢
  have HV := Lib.hid hv; have HSh := Lib.hid hs; have HS := Lib.hid h.any; have HVal := Lib.hid hval
  clear hv hs h hval hc
  cases hnum : numberedB id ver
  · have h7 : c = 7 := by rw [HVal.out, hnum]; rfl
    subst h7
    have HN := Lib.hid hnum; clear hnum HVal
    go_enter Tryz.func76, Tryz.ntmps76
    go_wp2_with fail
    refine (numbered_any _ _ _).mono ?_
    rw [HN.out]
    rintro e w1 ⟨rfl, rfl⟩
    go_wp2_with fail
    go_ret
    exact ⟨rfl, ((Below.refl w.heap.size w).alloc (Nat.le_refl _) _).alloc (by simp) _⟩
  · have HN := Lib.hid hnum
    by_cases hlen : vals.length = s.fields.length
    · have HVal2 := Lib.hid (show c = if normA s 0 vals = true then 0 else 7 by rw [HVal.out, hnum, hlen]; simp)
      have hne : ((vals.length : Int) != (s.fields.length : Int)) = false := by rw [hlen]; simp
      have HL := Lib.hid hlen
      clear hnum HVal hlen
      go_enter Tryz.func76, Tryz.ntmps76
      go_wp2_with fail
      refine (numbered_any _ _ _).mono ?_
      rw [HN.out]
      rintro e w1 ⟨rfl, rfl⟩
      go_wp2_with fail
      refine wp_world (fun W hW => ?_)
      have hb0 : Below w.heap.size w W := by rw [hW]; exact ((Below.refl w.heap.size w).alloc (Nat.le_refl _) _).alloc (by simp) _
      have hs0 : W.heap[w.heap.size]? = some (.cells #[.slice af s.fields.length cf, vt, vn, vs] 33 (0, 0)) := by rw [hW]; exact blk_old (blk_new rfl)
      clear hW
      have HB0 := Lib.hid hb0; have HS0 := Lib.hid hs0; clear hb0 hs0
      go_loopw [5, 6, 25] (fun _ _ i wr => ∃ j : Nat, i = .int .i64 j ∧ j ≤ vals.length ∧ Hid (normA s j (vals.drop j) = normA s 0 vals) ∧ Below W.heap.size W wr) (fun _ _ i _ => vals.length - (intOf i).toNat)
      case atStart => exact ⟨0, rfl, by omega, Lib.hid rfl, Below.refl _ _⟩
      case round =>
        obtain ⟨j, rfl, hj, HT, hb⟩ := hrel
        have HBr := Lib.hid hb; clear hb
        by_cases hlt : j < vals.length
        · have hq : decide ((j : Int) < vals.length) = true := by simp; omega
          obtain ⟨x, hx⟩ : ∃ x, vals[j] = x := ⟨_, rfl⟩
          have hxl : x.length ≤ 1000000 := HSh.out x (by rw [← hx]; exact List.getElem_mem _)
          have hT := HT.out
          rw [List.drop_eq_getElem_cons hlt, hx, normA] at hT
          obtain ⟨b, off, rfl, hb, hc⟩ := (HV.out.below (HB0.out.trans (HBr.out.mono HB0.out.size))).get j hlt
          have c0 := hc 0 _ rfl
          rw [Nat.mul_one, Nat.add_zero, hx] at c0
          have hsr := blk_below HBr.out (lt_of_blk HS0.out) HS0.out
          obtain ⟨s0, s1, s2, s3⟩ := cellsS hsr
          have HT2 := Lib.hid hT
          clear hc hT hx hsr HT
          go_wp2_with fail
          refine (normal_s Any1 _ vt vn vs s j ⟨x.toArray⟩ _ (HS.out.below (HB0.out.trans (HBr.out.mono HB0.out.size))) (by rw [mk_size]; omega)).mono ?_
          rw [show (⟨x.toArray⟩ : ByteArray).data.toList = x by simp]
          obtain ⟨nb, hnb⟩ : ∃ nb, normalB s j x = nb := ⟨_, rfl⟩
          rw [hnb] at HT2 ⊢
          rintro e w2 ⟨rfl, hb2⟩
          have HB2 := Lib.hid (HBr.out.trans (hb2.mono HBr.out.size))
          clear hb2 hnb s0 s1 s2 s3 c0
          cases nb
          · have h7 : c = 7 := by rw [HVal2.out, ← HT2.out]; rfl
            subst h7
            go_wp2_with fail
            go_ret
            exact ⟨rfl, HB0.out.trans (HB2.out.mono HB0.out.size)⟩
          · go_wp2_with fail
            go_roundw
            case rel => exact ⟨j + 1, by go_num, by omega, Lib.hid (by rw [← HT2.out, Bool.true_and]), HB2.out⟩
            case measure => simp [intOf]; omega
        · have hq : decide ((j : Int) < vals.length) = false := by simp; omega
          obtain rfl : j = vals.length := by omega
          have h0 : c = 0 := by rw [HVal2.out, ← HT.out, List.drop_length]; rfl
          subst h0
          go_wp2_with fail
          go_ret
          exact ⟨rfl, HB0.out.trans (HBr.out.mono HB0.out.size)⟩
    · have h7 : c = 7 := by rw [HVal.out, hnum]; simp [hlen]
      have hne : ((vals.length : Int) != (s.fields.length : Int)) = true := by simp; omega
      subst h7
      clear hnum HVal hlen
      go_enter Tryz.func76, Tryz.ntmps76
      go_wp2_with fail
      refine (numbered_any _ _ _).mono ?_
      rw [HN.out]
      rintro e w1 ⟨rfl, rfl⟩
      go_wp2_with fail
      go_ret
      exact ⟨rfl, ((Below.refl w.heap.size w).alloc (Nat.le_refl _) _).alloc (by simp) _⟩
set_option maxHeartbeats 4000000 in
theorem rcheck_all (S : Nat → Prop) (vf vt vn vs : Value) (s : SchemaL) (r : RecL) (sv : Value) (w : World) (h : SchemaAt w S vf vt vn vs s) (hv : Vec w Any1 1 encS sv r.vals) (hs : ∀ x ∈ r.vals, x.length ≤ 1000000) (hn : r.vals.length ≤ 1000000) :
    Calls Tryz.prog 32 #[.agg #[vf, vt, vn, vs], .agg #[.int .i64 r.id, .int .i64 r.ver, sv]] w fun e w' => e = .returned (.int .i64 (checkN s r)) ∧ Below w.heap.size w w' := by
  have hval : checkN s r = if checkS s = 0 then checkI s r else checkS s := rfl
  obtain ⟨c, hc⟩ : ∃ c, checkN s r = c := ⟨_, rfl⟩
  obtain ⟨d, hd⟩ : ∃ d, checkS s = d := ⟨_, rfl⟩
  rw [hc, hd] at hval
  rw [hc]
  have HV := Lib.hid hv; have HS := Lib.hid h.any; have HVal := Lib.hid hval; have HD := Lib.hid hd; have HSh := Lib.hid hs
  clear hv h hval hc hd hs
  have LV : Vec w Any1 1 encS sv r.vals := HV.out
  obtain ⟨a, cap, rfl⟩ := LV.slice
  clear LV
  by_cases h0 : d = 0
  · subst h0
    have HV2 := Lib.hid (show checkI s r = c by rw [HVal.out, if_pos rfl])
    go_enter Tryz.func32, Tryz.ntmps32
    go_wp2_with fail
    refine wp_calls_world (fun W hW => ?_)
    have hb0 : Below w.heap.size w W := by rw [hW]; exact ((Below.refl w.heap.size w).alloc (Nat.le_refl _) _).alloc (by simp) _
    have hs0 : W.heap[w.heap.size]? = some (.cells #[vf, vt, vn, vs] 33 (0, 0)) := by rw [hW]; exact blk_old (blk_new rfl)
    have hr0 : W.heap[w.heap.size + 1]? = some (.cells #[.int .i64 r.id, .int .i64 r.ver, .slice a r.vals.length cap] 48 (0, 0)) := by rw [hW]; exact blk_new (by simp)
    clear hW
    refine (scheck_any Any1 _ _ _ _ s _ (HS.out.below hb0)).mono ?_
    rw [HD.out]
    rintro e w1 ⟨rfl, hb⟩
    have hs1 := blk_below hb (lt_of_blk hs0) hs0; have hr1 := blk_below hb (lt_of_blk hr0) hr0
    have HB1 := Lib.hid (hb0.trans (hb.mono hb0.size))
    obtain ⟨s0, s1, s2, s3⟩ := cellsS hs1; obtain ⟨r0, r1, r2⟩ := cells3 hr1
    clear hb hb0 hs0 hr0 hs1 hr1
    go_wp2_with fail
    refine (rchk_any Any1 _ _ _ _ s r _ _ (HS.out.below HB1.out) (HV.out.below HB1.out) HSh.out hn).mono ?_
    rw [HV2.out]
    rintro e w2 ⟨rfl, hb⟩
    have HB2 := Lib.hid (HB1.out.trans (hb.mono HB1.out.size))
    clear hb s0 s1 s2 s3 r0 r1 r2
    go_wp2_with fail
    go_ret
    exact ⟨rfl, HB2.out⟩
  · have h1 : c = d := by rw [HVal.out, if_neg h0]
    subst h1
    have hne : (c != 0) = true := by simpa using h0
    clear h0
    go_enter Tryz.func32, Tryz.ntmps32
    go_wp2_with fail
    refine (scheck_any Any1 _ _ _ _ s _ (HS.out.below (((Below.refl w.heap.size w).alloc (Nat.le_refl _) _).alloc (by simp) _))).mono ?_
    rw [HD.out]
    rintro e w1 ⟨rfl, hb⟩
    have HB1 := Lib.hid ((((Below.refl w.heap.size w).alloc (Nat.le_refl _) (.cells #[vf, vt, vn, vs] 33)).alloc (by simp) (.cells #[.int .i64 r.id, .int .i64 r.ver, .slice a r.vals.length cap] 48)).trans (hb.mono (by simp; omega)))
    clear hb
    go_wp2_with fail
    go_ret
    exact ⟨rfl, HB1.out⟩
end
section
set_option maxRecDepth 100000
open Go.RowKit Cal
attribute [local go_sem] toList_mk mk_size str_append
/-- parameters that are valid for a number of fields -/
structure ParsOk (P : List ParL) : Prop where
  par : ∀ i, i < P.length → ParOk (P.getD i default)
  salt : ∀ i, i < P.length → (P.getD i default).salt < P.length ∧ (P.getD i default).salt ≠ i
/-- what a record and parameters must be for encode.Record to succeed -/
structure RecIn (s : SchemaL) (P : List ParL) (r : RecL) : Prop where
  chk : checkS s = 0
  rec_ : checkN s r = 0
  len : P.length = s.fields.length
  pars : ParsOk P
  short : ∀ v ∈ r.vals, v.length ≤ 64
theorem RecIn.enc {s : SchemaL} {P : List ParL} {r : RecL} (h : RecIn s P r) : EncIn s P r.vals := by
  obtain ⟨_, hnum, hl, hno⟩ := checkN_ok h.rec_
  have h5 := (check_fields h.chk).1.2
  have hl2 := h.len
  refine ⟨by omega, by omega, fun i hi => ⟨h.pars.par i hi, by have := (h.pars.salt i hi).1; omega, by omega, by omega, ?_, ?_, h.short⟩⟩
  · rw [findN_in h.chk (by omega)]
  · have := normA_get s r.vals 0 hno i (by omega)
    rwa [Nat.zero_add] at this
end
section
set_option maxRecDepth 100000
open Go.RowKit
/-- parameters that are dealt for n fields, the first j of them -/
structure ParsD (n j : Nat) (P : List ParL) : Prop where
  len : P.length = j
  par : ∀ i, i < j → ParOk (P.getD i default) ∧ (P.getD i default).salt < n ∧ (P.getD i default).salt ≠ i
theorem ParsD.nil (n : Nat) : ParsD n 0 [] := ⟨rfl, fun i hi => by omega⟩
theorem ParsD.snoc {n j : Nat} {P : List ParL} {p : ParL} (h : ParsD n j P) (hp : ParOk p) (h1 : p.salt < n) (h2 : p.salt ≠ j) : ParsD n (j + 1) (P ++ [p]) := by
  refine ⟨by simp [h.len], fun i hi => ?_⟩
  by_cases hij : i < j
  · have e : (P ++ [p]).getD i default = P.getD i default := by rw [List.getD, List.getD, List.getElem?_append_left (by rw [h.len]; exact hij)]
    rw [e]; exact h.par i hij
  · have hij' : i = j := by omega
    subst hij'
    have e : (P ++ [p]).getD i default = p := by rw [List.getD, List.getElem?_append_right (by rw [h.len]; exact Nat.le_refl _), h.len, Nat.sub_self]; rfl
    rw [e]; exact ⟨hp, h1, h2⟩
theorem ParsD.ok {n : Nat} {P : List ParL} (h : ParsD n n P) : ParsOk P := ⟨fun i hi => (h.par i (by rw [← h.len]; exact hi)).1, fun i hi => by have := (h.par i (by rw [← h.len]; exact hi)).2; rw [h.len]; exact this⟩
end
section
set_option maxRecDepth 100000
open Go.RowKit
attribute [local go_sem] toList_mk mk_size bytes_append
theorem ext_one (s : ByteArray) (k : Nat) (h : k < s.size) : s.extract k (k + 1) = ⟨[s[k]].toArray⟩ := by
  have hl : s.data.toList.length = s.size := by simp
  have := ext_mk s.data.toList k (k + 1) (by omega)
  unfold mkS at this
  have e : (⟨s.data.toList.toArray⟩ : ByteArray) = s := by simp
  rw [e] at this
  rw [this]
  congr 2
  rw [take_snoc' s k h, List.drop_append_of_le_length (by rw [List.length_take]; omega), List.drop_eq_nil_of_le (by rw [List.length_take]; omega), List.nil_append]
set_option maxHeartbeats 1000000 in
theorem rletters_any (s : ByteArray) (w : World) (hs : s.size ≤ 1000000) :
    Calls Tryz.prog 165 #[.string s] w fun e w' => e = .returned (strV (lettersL s.data.toList)) ∧ w = w' := by
  have hl : s.data.toList.length = s.size := by simp
  have HL := Lib.hid hl; clear hl
  go_enter Tryz.func165, Tryz.ntmps165
  go_wp2_with fail
  go_loop [3, 4] (fun o i => ∃ k : Nat, k ≤ s.size ∧ i = .int .i64 k ∧ o = strV (lettersL (s.data.toList.take k))) (fun _ i => s.size - (intOf i).toNat)
  case atStart => exact ⟨0, by omega, rfl, rfl⟩
  case round =>
    obtain ⟨k, hk, rfl, rfl⟩ := hrel
    by_cases hlt : k < s.size
    · have hq : decide ((k : Int) < s.size) = true := by simp; omega
      have ht := Lib.hid (take_snoc' s k hlt)
      have hb := s[k].toNat_lt
      have hlen : (lettersL (s.data.toList.take k)).length ≤ 1000000 := by have := letters_len (s.data.toList.take k); have := List.length_take_le k s.data.toList; omega
      have hext := ext_one s k hlt
      cases hlo : isLow s[k]
      · have HN := Lib.hid (letters_no (s.data.toList.take k) s[k] hlo)
        have hc := hlo
        rw [low_iff, decide_eq_false_iff_not] at hc
        have hc' : (97 ≤ (s[k].toNat : Int) ∧ 122 < (s[k].toNat : Int)) ∨ (s[k].toNat : Int) < 97 := by omega
        clear hc hlo hext
        rcases hc' with ⟨g1, g2⟩ | g1
        all_goals
          go_wp2_with fail
          go_round
          case rel => exact ⟨k + 1, by omega, by go_num, by rw [ht.out, HN.out]⟩
          case measure => simp [intOf]; omega
      · have HY := Lib.hid (letters_yes (s.data.toList.take k) s[k] hlo)
        have hc := hlo
        rw [low_iff, decide_eq_true_iff] at hc
        obtain ⟨g1, g2⟩ := hc
        clear hlo
        go_wp2_with fail
        go_round
        case rel => exact ⟨k + 1, by omega, by go_num, by rw [ht.out, HY.out]⟩
        case measure => simp [intOf]; omega
    · obtain rfl : k = s.size := by omega
      have hq : decide ((s.size : Int) < s.size) = false := by simp
      have HF := Lib.hid (List.take_of_length_le (by rw [HL.out]; exact Nat.le_refl _) : s.data.toList.take s.size = s.data.toList)
      go_wp2_with fail
      go_ret
      exact ⟨by show Ending.returned (strV (lettersL (s.data.toList.take s.size))) = _; rw [HF.out], rfl⟩
theorem join_snoc (T : List (List UInt8)) (x : List UInt8) : joinL (T ++ [x]) = if T = [] then x else joinL T ++ [32] ++ x := by
  induction T with
  | nil => rfl
  | cons t T ih =>
    rw [if_neg (by simp)]
    by_cases hT : T = []
    · subst hT; simp [joinL]
    · rw [if_neg hT] at ih
      rw [List.cons_append, join_cons_ne _ _ (by simp), ih, join_cons_ne _ _ hT]; simp
theorem join_take_len (L : List (List UInt8)) : ∀ k, (joinL (L.take k)).length ≤ (joinL L).length := by
  induction L with
  | nil => intro k; simp
  | cons a L ih =>
    intro k
    cases k with
    | zero => simp [joinL]
    | succ k =>
      rw [List.take_succ_cons]
      by_cases hk : L.take k = []
      · rw [hk]
        by_cases hL : L = []
        · subst hL; simp [joinL]
        · rw [join_cons_ne _ _ hL]; simp [joinL]
      · have hL : L ≠ [] := by intro e; subst e; simp at hk
        rw [join_cons_ne _ _ hk, join_cons_ne _ _ hL]
        have := ih k; simp; omega
set_option maxHeartbeats 1000000 in
theorem rjoin_any (S : Nat → Prop) (v : Value) (L : List (List UInt8)) (w : World) (h : Vec w S 1 encS v L) (hn : L.length ≤ 1000000) (hj : (joinL L).length ≤ 1000000000) :
    Calls Tryz.prog 181 #[v] w fun e w' => e = .returned (strV (joinL L)) ∧ w = w' := by
  obtain ⟨a, cap, rfl⟩ := h.slice
  have HV := Lib.hid h; clear h
  go_enter Tryz.func181, Tryz.ntmps181
  go_wp2_with fail
  go_loop [3, 4] (fun o i => ∃ k : Nat, k ≤ L.length ∧ i = .int .i64 k ∧ o = strV (joinL (L.take k))) (fun _ i => L.length - (intOf i).toNat)
  case atStart => exact ⟨0, by omega, rfl, rfl⟩
  case round =>
    obtain ⟨k, hk, rfl, rfl⟩ := hrel
    have hlen := join_take_len L k
    by_cases hlt : k < L.length
    · have hq : decide ((k : Int) < L.length) = true := by simp; omega
      obtain ⟨b, off, rfl, _, hb, hc⟩ := vec_cell1 HV.out (by omega)
      have c1 := hc k hlt
      have htk := take_snocA L k hlt
      rw [show (default : List UInt8) = [] from rfl] at htk
      have hxl := join_take_len L (k + 1)
      have hsn := join_snoc (L.take k) (L.getD k [])
      rw [← htk] at hsn
      obtain ⟨x, hx⟩ : ∃ x, L.getD k [] = x := ⟨_, rfl⟩
      rw [hx] at c1 htk hsn
      have hx1 : x.length ≤ 1000000000 := by
        rw [hsn] at hxl
        split at hxl
        · omega
        · simp at hxl; omega
      have HSn := Lib.hid hsn
      clear hc htk hsn hx hxl
      by_cases hk0 : k = 0
      · subst hk0
        have e0 : joinL ([] : List (List UInt8)) = [] := rfl
        rw [Nat.add_zero] at c1
        go_wp2_with fail
        go_round
        case rel => exact ⟨1, by omega, by go_num, by rw [HSn.out, if_pos (by simp)]⟩
        case measure => simp [intOf]; omega
      · have hq0 : decide ((0 : Int) < k) = true := by simp; omega
        have hk1 : 0 < k := by omega
        have hne : L.take k ≠ [] := by intro e; have := congrArg List.length e; rw [List.length_take, List.length_nil] at this; omega
        have HNe := Lib.hid hne
        clear hk0 hne
        go_wp2_with fail
        go_round
        case rel => exact ⟨k + 1, by omega, by go_num, by rw [HSn.out, if_neg HNe.out]; simp⟩
        case measure => simp [intOf]; omega
    · obtain rfl : k = L.length := by omega
      have hq : decide ((L.length : Int) < L.length) = false := by simp
      have HF := Lib.hid (List.take_of_length_le (Nat.le_refl _) : L.take L.length = L)
      go_wp2_with fail
      go_ret
      exact ⟨rfl, rfl⟩
end
section
set_option maxRecDepth 100000
open Go.RowKit
attribute [local go_sem] toList_mk mk_size bytes_append
theorem list_ext0 {A B : List (List UInt8)} (hl : A.length = B.length) (h : ∀ j, j < A.length → A.getD j [] = B.getD j []) : A = B := by
  refine List.ext_getElem hl fun j h1 h2 => ?_
  have := h j h1
  rwa [List.getD, List.getD, List.getElem?_eq_getElem h1, List.getElem?_eq_getElem h2] at this
set_option maxHeartbeats 1000000 in
theorem rsame_any (S T : Nat → Prop) (va vb : Value) (A B : List (List UInt8)) (w : World) (hA : Vec w S 1 encS va A) (hB : Vec w T 1 encS vb B) (hn : A.length ≤ 1000000) (hm : B.length ≤ 1000000) :
    Calls Tryz.prog 78 #[va, vb] w fun e w' => e = .returned (.bool (A == B)) ∧ Below w.heap.size w w' := by
  obtain ⟨aa, ca, rfl⟩ := hA.slice
  obtain ⟨ab, cb, rfl⟩ := hB.slice
  have HA := Lib.hid hA; have HB := Lib.hid hB
  clear hA hB
  by_cases hl : A.length = B.length
  · have hq0 : ((A.length : Int) != (B.length : Int)) = false := by rw [hl]; simp
    have hq1 : (A.length != B.length) = false := by rw [hl]; simp
    have HL := Lib.hid hl
    have hl2 : A.length ≤ B.length := by omega
    clear hl
    go_enter Tryz.func78, Tryz.ntmps78
    go_wp2_with fail
    clear hq0 hq1
    go_loopw [5] (fun i wr => ∃ k : Nat, k ≤ A.length ∧ i = .int .i64 k ∧ Below w.heap.size w wr ∧ Hid (∀ j, j < k → A.getD j [] = B.getD j [])) (fun i _ => A.length - (intOf i).toNat)
    case atStart => exact ⟨0, by omega, rfl, Below.refl _ _, Lib.hid fun j hj => by omega⟩
    case round =>
      obtain ⟨k, hk, rfl, hbw, HE⟩ := hrel
      have HW := Lib.hid hbw
      by_cases hlt : k < A.length
      · have hq : decide ((k : Int) < A.length) = true := by simp; omega
        have hi1 : (k : Int) < (A.length : Int) := by omega
        have hi2 : (k : Int) < (B.length : Int) := by omega
        obtain ⟨b1, o1, rfl, _, hb1, hc1⟩ := vec_cell1 HA.out (by omega)
        obtain ⟨b2, o2, rfl, _, hb2, hc2⟩ := vec_cell1 HB.out (by omega)
        have c1 := (hbw.cell (p := ⟨b1, o1 + k, none⟩) hb1).trans (hc1 k hlt)
        have c2 := (hbw.cell (p := ⟨b2, o2 + k, none⟩) hb2).trans (hc2 k (by omega))
        obtain ⟨x, hx⟩ : ∃ x, A.getD k [] = x := ⟨_, rfl⟩
        obtain ⟨y, hy⟩ : ∃ y, B.getD k [] = y := ⟨_, rfl⟩
        rw [hx] at c1
        rw [hy] at c2
        have HX := Lib.hid hx; have HY := Lib.hid hy
        clear hc1 hc2 hx hy hbw
        by_cases he : x = y
        · subst he
          go_wp2_with fail
          go_quiet (fail)
          go_wp2_with fail
          go_roundw
          case rel => exact ⟨k + 1, by omega, by go_num, below_drewN HW.out _, Lib.hid fun j hj => by
            by_cases e : j = k
            · subst e; rw [HX.out, HY.out]
            · exact HE.out j (by omega)⟩
          case measure => simp [intOf]; try omega
        · have hne : (x != y) = true := by simpa using he
          have hne2 : (x == y) = false := by simpa using he
          have HNe := Lib.hid he
          clear he
          go_wp2_with fail
          go_quiet (fail)
          go_wp2_with fail
          go_ret
          refine ⟨ret_bool ?_, below_drewN HW.out _⟩
          have : A ≠ B := fun e => HNe.out (by rw [← HX.out, ← HY.out, e])
          simpa using this
      · have hq : decide ((k : Int) < A.length) = false := by simp; omega
        go_wp2_with fail
        go_ret
        refine ⟨ret_bool ?_, HW.out⟩
        have : A = B := list_ext0 HL.out fun j hj => HE.out j (by omega)
        rw [this]; simp
  · have hq0 : ((A.length : Int) != (B.length : Int)) = true := by simp; omega
    have hq1 : (A.length != B.length) = true := by simp; omega
    have HN := Lib.hid hl; clear hl
    go_enter Tryz.func78, Tryz.ntmps78
    go_wp2_with fail
    go_ret
    refine ⟨ret_bool ?_, Below.refl _ _⟩
    have : A ≠ B := fun e => HN.out (by rw [e])
    simpa using this
set_option maxHeartbeats 2000000 in
theorem rtokens_any (s : ByteArray) (w : World) (hs : s.size ≤ 1000000) :
    Calls Tryz.prog 178 #[.string s] w fun e w' => ∃ v, e = .returned v ∧ OwnAt w v (toks s.data.toList) w' := by
  have hl : s.data.toList.length = s.size := by simp
  have HL := Lib.hid hl; clear hl
  obtain ⟨l, hl⟩ : ∃ l, s.data.toList = l := ⟨_, rfl⟩
  rw [hl] at HL
  have HLs := Lib.hid hl
  rw [hl]
  clear hl
  go_enter Tryz.func178, Tryz.ntmps178
  go_wp2_with fail
  go_loopw [3, 4, 5] (fun v t i wr => ∃ (k : Nat) (C : List (List UInt8)) (p : List UInt8), k ≤ s.size + 1 ∧ i = .int .i64 k ∧ t = strV p ∧ OwnAt w v C wr ∧ p.length ≤ k ∧ C.length ≤ k ∧ (k = s.size + 1 → p = []) ∧ Hid (toks l = C ++ toksA p (l.drop k))) (fun _ _ i _ => s.size + 1 - (intOf i).toNat)
  case atStart => exact ⟨0, [], [], by omega, rfl, rfl, OwnAt.start w, by simp, by simp, by omega, Lib.hid rfl⟩
  case round =>
    obtain ⟨k, C, p, hk, rfl, rfl, ho, hp, hC, hpe, HT⟩ := hrel
    have HO := Lib.hid ho; have HPe := Lib.hid hpe
    clear ho hpe
    by_cases hlt : k < s.size
    · have hq : decide ((k : Int) ≤ s.size) = true := by simp; omega
      have hq2 : decide ((k : Int) < s.size) = true := by simp; omega
      have hdr := drop_one s k hlt
      rw [HLs.out] at hdr
      by_cases hsp : s[k] = 32
      · have e1 : ((s[k].toNat : Int) != 32) = false := by rw [hsp]; rfl
        rw [hsp] at hdr
        have HD := Lib.hid hdr
        clear hsp hdr
        by_cases hp0 : p = []
        · subst hp0
          go_wp2_with fail
          go_roundw
          case rel => exact ⟨k + 1, C, [], by omega, by go_num, rfl, HO.out, by simp, by omega, fun _ => rfl, Lib.hid (by rw [HT.out, HD.out, toksA_sp0])⟩
          case measure => simp [intOf]; try omega
        · have f1 : (p == []) = false := by simpa using hp0
          have f2 : p.isEmpty = false := by simpa using hp0
          have f3 : (p != []) = true := by simpa using hp0
          have HP0 := Lib.hid hp0; clear hp0
          have hone : ∀ u ∈ (#[strV p] : Array Value).toList, u.oneCell' = true := by intro u hu; simp at hu; subst hu; rfl
          go_wp2_with (at_builtin; refine wpList_append_new rfl _ _ 28 rfl w.heap.size 9 1 16 (.string ⟨#[]⟩) Tryz.underlying28 infoS rfl (by decide) (by decide) _ _ _ rfl HO.out.1 #[strV p] 1 rfl rfl hone (by omega) HO.out.2.size ?_; intro v2 w8 ho8 hw8)
          go_roundw
          case rel => exact ⟨k + 1, C ++ [p], [], by omega, by go_num, rfl, ⟨by rw [List.length_append, flat_snoc]; exact ho8, hw8 _ HO.out.2⟩, by simp, by rw [List.length_append, List.length_singleton]; omega, fun _ => rfl, Lib.hid (by rw [HT.out, HD.out, toksA_sp _ _ HP0.out]; simp)⟩
          case measure => simp [intOf]; try omega
      · have e1 : ((s[k].toNat : Int) != 32) = true := by
          simp only [bne_iff_ne, ne_eq]; intro e; apply hsp; rw [← UInt8.toNat_inj]; simp; omega
        have hext := ext_one s k hlt
        have HD := Lib.hid hdr; have HSp := Lib.hid hsp
        clear hsp hdr
        go_wp2_with fail
        go_roundw
        case rel => exact ⟨k + 1, C, p ++ [s[k]], by omega, by go_num, rfl, HO.out, by simp; omega, by omega, fun h => by omega, Lib.hid (by rw [HT.out, HD.out, toksA_ch _ _ _ HSp.out])⟩
        case measure => simp [intOf]; omega
    · by_cases hke : k = s.size
      · subst hke
        have hq : decide ((s.size : Int) ≤ s.size) = true := by simp
        have hq2 : decide ((s.size : Int) < s.size) = false := by simp
        have hdr : l.drop s.size = [] := List.drop_eq_nil_of_le (by rw [HL.out]; exact Nat.le_refl _)
        have hdr2 : l.drop (s.size + 1) = [] := List.drop_eq_nil_of_le (by rw [HL.out]; omega)
        have HD := Lib.hid hdr; have HD2 := Lib.hid hdr2
        clear hdr hdr2
        by_cases hp0 : p = []
        · subst hp0
          go_wp2_with fail
          go_roundw
          case rel => exact ⟨s.size + 1, C, [], by omega, by go_num, rfl, HO.out, by simp, by omega, fun _ => rfl, Lib.hid (by rw [HT.out, HD.out, HD2.out])⟩
          case measure => simp [intOf]; try omega
        · have f1 : (p == []) = false := by simpa using hp0
          have f2 : p.isEmpty = false := by simpa using hp0
          have f3 : (p != []) = true := by simpa using hp0
          have HP0 := Lib.hid hp0; clear hp0
          have hone : ∀ u ∈ (#[strV p] : Array Value).toList, u.oneCell' = true := by intro u hu; simp at hu; subst hu; rfl
          go_wp2_with (at_builtin; refine wpList_append_new rfl _ _ 28 rfl w.heap.size 9 1 16 (.string ⟨#[]⟩) Tryz.underlying28 infoS rfl (by decide) (by decide) _ _ _ rfl HO.out.1 #[strV p] 1 rfl rfl hone (by omega) HO.out.2.size ?_; intro v2 w8 ho8 hw8)
          go_roundw
          case rel => exact ⟨s.size + 1, C ++ [p], [], by omega, by go_num, rfl, ⟨by rw [List.length_append, flat_snoc]; exact ho8, hw8 _ HO.out.2⟩, by simp, by rw [List.length_append, List.length_singleton]; omega, fun _ => rfl, Lib.hid (by rw [HT.out, HD.out, HD2.out, toksA_end _ HP0.out]; simp [toksA])⟩
          case measure => simp [intOf]; try omega
      · have hq : decide ((k : Int) ≤ s.size) = false := by simp; omega
        obtain rfl : k = s.size + 1 := by omega
        obtain rfl : p = [] := HPe.out rfl
        have hdr2 : l.drop (s.size + 1) = [] := List.drop_eq_nil_of_le (by rw [HL.out]; omega)
        have hT := HT.out
        rw [hdr2] at hT
        have hT' : toks l = C := by rw [hT]; simp [toksA]
        rw [← hT'] at HO
        clear hT hT' hdr2 hke
        go_wp2_with fail
        go_ret
        exact ⟨_, rfl, HO.out⟩
end
section
set_option maxRecDepth 100000
open Go.RowKit
/-- does a text end with a space -/
def endsSp : List UInt8 → Bool
  | [] => false
  | [c] => c == 32
  | _ :: d :: r => endsSp (d :: r)
theorem ends_cons (c : UInt8) {R : List UInt8} (h : R ≠ []) : endsSp (c :: R) = endsSp R := by
  cases R with
  | nil => exact absurd rfl h
  | cons d r => rfl
theorem ends_snoc (R : List UInt8) (c : UInt8) : endsSp (R ++ [c]) = (c == 32) := by
  induction R with
  | nil => rfl
  | cons d R ih => rw [List.cons_append, ends_cons _ (by simp), ih]
theorem ends_app (R : List UInt8) {x : List UInt8} (h : x ≠ []) (h2 : ∀ b ∈ x, b ≠ 32) : endsSp (R ++ x) = false := by
  obtain ⟨y, c, rfl⟩ : ∃ y c, x = y ++ [c] := ⟨_, _, (List.dropLast_concat_getLast h).symm⟩
  rw [← List.append_assoc, ends_snoc]
  simpa using h2 c (by simp)
theorem toksA_only (x : List UInt8) (h2 : ∀ b ∈ x, b ≠ 32) : ∀ p, p ++ x ≠ [] → toksA p x = [p ++ x] := by
  induction x with
  | nil => intro p h; rw [List.append_nil] at h; rw [toksA_end _ h, List.append_nil]
  | cons c x ih =>
    intro p _
    rw [toksA_ch _ _ _ (h2 c List.mem_cons_self), ih (fun b hb => h2 b (List.mem_cons_of_mem _ hb)) _ (by simp)]
    simp
theorem join_nil {T : List (List UInt8)} (h : ∀ t ∈ T, t ≠ []) (e : joinL T = []) : T = [] := by
  cases T with
  | nil => rfl
  | cons t T =>
    exfalso
    by_cases hT : T = []
    · subst hT; exact h t List.mem_cons_self (by simpa [joinL] using e)
    · rw [join_cons_ne _ _ hT] at e; simp at e
theorem spaces_end (R : List UInt8) : toksA [] R = [] → endsSp (32 :: R) = true := by
  induction R with
  | nil => intro _; rfl
  | cons c R ih =>
    intro h
    rw [ends_cons _ (by simp)]
    by_cases hc : c = 32
    · subst hc
      rw [toksA_sp0] at h
      exact ih h
    · exfalso
      rw [toksA_ch _ _ _ hc] at h
      have := (toksA_len R ([] ++ [c])).2
      have h3 : ∀ (R : List UInt8) p, p ≠ [] → toksA p R ≠ [] := by
        intro R
        induction R with
        | nil => intro p hp; rw [toksA_end _ hp]; simp
        | cons d R ih2 =>
          intro p hp
          by_cases hd : d = 32
          · subst hd; rw [toksA_sp _ _ hp]; simp
          · rw [toksA_ch _ _ _ hd]; exact ih2 _ (by simp)
      exact h3 R _ (by simp) h
theorem toksA_more (R : List UInt8) {x : List UInt8} (h : x ≠ []) (h2 : ∀ b ∈ x, b ≠ 32) : ∀ p, toksA p (R ++ x) ≠ [] := by
  induction R with
  | nil => intro p; rw [List.nil_append, toksA_only x h2 p (by simp [h])]; simp
  | cons c R ih =>
    intro p
    rw [List.cons_append]
    by_cases hc : c = 32
    · subst hc
      by_cases hp : p = []
      · subst hp; rw [toksA_sp0]; exact ih []
      · rw [toksA_sp _ _ hp]; simp
    · rw [toksA_ch _ _ _ hc]; exact ih _
/-- a text goes on with bytes that are no spaces -/
theorem join_more {x : List UInt8} (h : x ≠ []) (h2 : ∀ b ∈ x, b ≠ 32) (R : List UInt8) : ∀ p, joinL (toksA p (R ++ x)) = joinL (toksA p R) ++ (if endsSp R = true ∧ joinL (toksA p R) ≠ [] then [32] else []) ++ x := by
  induction R with
  | nil =>
    intro p
    rw [List.nil_append, toksA_only x h2 p (by simp [h]), if_neg (by simp [endsSp])]
    by_cases hp : p = []
    · subst hp; simp [toksA, joinL]
    · rw [toksA_end _ hp]; simp [joinL]
  | cons c R ih =>
    intro p
    rw [List.cons_append]
    by_cases hc : c = 32
    · subst hc
      by_cases hp : p = []
      · subst hp
        rw [toksA_sp0, toksA_sp0, ih []]
        by_cases hR : R = []
        · subst hR; simp [endsSp, toksA, joinL]
        · rw [ends_cons _ hR]
      · rw [toksA_sp _ _ hp, toksA_sp _ _ hp, join_cons_ne _ _ (toksA_more R h h2 []), ih []]
        by_cases hT : toksA [] R = []
        · rw [hT]
          have he := spaces_end R hT
          rw [if_neg (by simp [joinL]), if_pos ⟨he, by simpa [joinL] using hp⟩]
          simp [joinL]
        · have hR : R ≠ [] := by intro e; subst e; exact hT rfl
          have hj : joinL (toksA [] R) ≠ [] := fun e => hT (join_nil (toksA_ne R []) e)
          rw [join_cons_ne _ _ hT, ends_cons _ hR]
          by_cases he : endsSp R = true
          · rw [if_pos ⟨he, hj⟩, if_pos ⟨he, by simp⟩]; simp
          · rw [if_neg (fun h => he h.1), if_neg (fun h => he h.1)]; simp
    · rw [toksA_ch _ _ _ hc, toksA_ch _ _ _ hc, ih]
      by_cases hR : R = []
      · subst hR
        rw [if_neg (by simp [endsSp]), if_neg (by simp [endsSp, hc])]
      · rw [ends_cons _ hR]
theorem fold_more {x : List UInt8} (h : x ≠ []) (h2 : ∀ b ∈ x, b ≠ 32) (R : List UInt8) : joinL (toks (R ++ x)) = joinL (toks R) ++ (if endsSp R = true ∧ joinL (toks R) ≠ [] then [32] else []) ++ x := join_more h h2 R []
theorem fold_space (R : List UInt8) : toks (R ++ [32]) = toks R := toksA_last R []
end
section
set_option maxRecDepth 100000
open Go.RowKit
attribute [local go_sem] toList_mk mk_size bytes_append
theorem ok_not_pair (s : ByteArray) (k : Nat) (hk : k < s.size) (h : okByte s[k] = true) : pairAt (s.data.toList.drop k) = false := by
  by_cases h2 : k + 1 < s.size
  · rw [drop_two s k h2]; exact byte_pair h
  · rw [drop_last s k (by omega)]; rfl
theorem pair_facts2 (s : ByteArray) (k : Nat) (h2 : k + 1 < s.size) (h : pairAt (s.data.toList.drop k) = true) : s[k] = 195 ∧ 128 ≤ (s[k + 1].toNat : Int) ∧ (s[k + 1].toNat : Int) ≤ 191 := by
  rw [drop_two s k h2] at h
  have h' : isPair s[k] s[k + 1] = true := h
  rw [pair_iff, decide_eq_true_iff] at h'
  exact ⟨by rw [← UInt8.toNat_inj]; simp; omega, h'.2⟩
set_option maxHeartbeats 2000000 in
theorem rvalid_text (s : ByteArray) (w : World) (hs : s.size ≤ 9223372036854775000) :
    Calls Tryz.prog 235 #[.string s] w fun e w' => e = .returned (.bool (foldV s.data.toList)) ∧ w = w' := by
  have hl : s.data.toList.length = s.size := by simp
  have HL := Lib.hid hl; clear hl
  unfold foldV
  by_cases h64 : s.size ≤ 64
  · have d1 : decide ((64 : Int) < s.size) = false := by simp; omega
    go_enter Tryz.func235, Tryz.ntmps235
    go_wp2_with fail
    clear d1
    go_loop [3] (fun i => ∃ k : Nat, k ≤ s.size ∧ i = .int .i64 k ∧ Hid (validL s.data.toList = validL (s.data.toList.drop k))) (fun i => s.size - (intOf i).toNat)
    case atStart => exact ⟨0, by omega, rfl, Lib.hid rfl⟩
    case round =>
      obtain ⟨k, hk, rfl, HV⟩ := hrel
      by_cases hlt : k < s.size
      · have hq : decide ((k : Int) < s.size) = true := by simp; omega
        have hb := s[k].toNat_lt
        cases hok : okByte s[k]
        · cases hp : pairAt (s.data.toList.drop k)
          · have hv := Lib.hid (valid_one s k hlt hp)
            have HOk := Lib.hid hok
            rw [ok_iff, decide_eq_false_iff_not] at hok
            have hc : (s[k].toNat : Int) < 32 ∨ (32 ≤ (s[k].toNat : Int) ∧ 126 < (s[k].toNat : Int)) := by omega
            clear hok
            have hfalse : validL s.data.toList = false := by rw [HV.out, hv.out, HOk.out]; rfl
            have HF := Lib.hid hfalse
            clear hfalse
            by_cases h195 : s[k] = 195
            · have e1 : ((s[k].toNat : Int) != 195) = false := by rw [h195]; rfl
              by_cases h2 : k + 1 < s.size
              · have e2 : ((k : Int) + 1 == (s.size : Int)) = false := by simp only [beq_eq_false_iff_ne, ne_eq]; omega
                rw [drop_two s k h2] at hp
                have hp' : isPair s[k] s[k + 1] = false := hp
                rw [pair_iff, decide_eq_false_iff_not] at hp'
                have h195' : (s[k].toNat : Int) = 195 := by rw [h195]; rfl
                have hc2 : (s[k + 1].toNat : Int) < 128 ∨ (128 ≤ (s[k + 1].toNat : Int) ∧ 191 < (s[k + 1].toNat : Int)) := by omega
                clear hp hp' h195 h195'
                rcases hc with g1 | ⟨g1, g2⟩ <;> rcases hc2 with g3 | ⟨g3, g4⟩
                all_goals
                  go_wp2_with fail
                  go_ret
                  exact ⟨ret_bool (by rw [HF.out]; try rfl), rfl⟩
              · have e2 : ((k : Int) + 1 == (s.size : Int)) = true := by simp only [beq_iff_eq]; omega
                clear hp h195
                rcases hc with g1 | ⟨g1, g2⟩
                all_goals
                  go_wp2_with fail
                  go_ret
                  exact ⟨ret_bool (by rw [HF.out]; try rfl), rfl⟩
            · have e1 : ((s[k].toNat : Int) != 195) = true := by
                simp only [bne_iff_ne, ne_eq]; intro e; apply h195; rw [← UInt8.toNat_inj]; simp; omega
              clear hp h195
              rcases hc with g1 | ⟨g1, g2⟩
              all_goals
                go_wp2_with fail
                go_ret
                exact ⟨ret_bool (by rw [HF.out]; try rfl), rfl⟩
          · have h2 := pairAt_lt s k hlt hp
            have hv := Lib.hid (valid_two s k hlt hp)
            obtain ⟨g0, g3, g4⟩ := pair_facts2 s k h2 hp
            have e1 : ((s[k].toNat : Int) != 195) = false := by rw [g0]; rfl
            have e2 : ((k : Int) + 1 == (s.size : Int)) = false := by simp only [beq_eq_false_iff_ne, ne_eq]; omega
            have g1 : 32 ≤ (s[k].toNat : Int) := by rw [g0]; decide
            have g2 : 126 < (s[k].toNat : Int) := by rw [g0]; decide
            clear hok hp g0
            go_wp2_with fail
            go_round
            case rel => exact ⟨k + 2, by omega, by go_num, Lib.hid (HV.out.trans hv.out)⟩
            case measure => simp [intOf]; omega
        · have hp := ok_not_pair s k hlt hok
          have hv := Lib.hid (valid_one s k hlt hp)
          have HOk := Lib.hid hok
          rw [ok_iff, decide_eq_true_iff] at hok
          obtain ⟨g1, g2⟩ := hok
          clear hp
          go_wp2_with fail
          go_round
          case rel => exact ⟨k + 1, by omega, by go_num, Lib.hid (HV.out.trans (by rw [hv.out, HOk.out]; rfl))⟩
          case measure => simp [intOf]; omega
      · have hq : decide ((k : Int) < s.size) = false := by simp; omega
        have hd : s.data.toList.drop k = [] := List.drop_eq_nil_of_le (by rw [HL.out]; omega)
        have HD := Lib.hid hd; clear hd
        go_wp2_with fail
        go_ret
        refine ⟨ret_bool ?_, rfl⟩
        rw [HV.out, HD.out]
        first | rfl | (rw [HL.out, decide_eq_true (by omega)]; rfl)
  · have d1 : decide ((64 : Int) < s.size) = true := by simp; omega
    go_enter Tryz.func235, Tryz.ntmps235
    go_wp2_with fail
    go_ret
    exact ⟨ret_bool (by rw [HL.out, decide_eq_false (by omega)]; simp), rfl⟩
end
section
set_option maxRecDepth 100000
open Go.RowKit
attribute [local go_sem] toList_mk mk_size bytes_append
def tabR : List UInt8 := [97, 97, 97, 97, 97, 97, 63, 63, 101, 101, 101, 101, 105, 105, 105, 105, 100, 110, 111, 111, 111, 111, 111, 63, 111, 117, 117, 117, 117, 121, 63, 63]
def replR (n : Nat) : List UInt8 := if n % 32 = 6 then [97, 101] else if n % 32 = 7 then [99] else if n % 32 = 23 then [] else if n % 32 = 30 then [116, 104] else if n = 31 then [115, 115] else if n = 63 then [121] else [tabR.getD (n % 32) 0]
theorem replB_is : ∀ n : Fin 64, replB (UInt8.ofNat (128 + n)) = replR n := by decide
theorem and_31 : ((List.range 64).all fun n => bits .and .u8 ((128 + n : Nat) : Int) 31 == ((n % 32 : Nat) : Int)) = true := by kernel_rfl
theorem tab_ext (r : Nat) (h : r < 32) : (⟨#[97, 97, 97, 97, 97, 97, 63, 63, 101, 101, 101, 101, 105, 105, 105, 105, 100, 110, 111, 111, 111, 111, 111, 63, 111, 117, 117, 117, 117, 121, 63, 63]⟩ : ByteArray).extract r (r + 1) = ⟨[tabR.getD r 0].toArray⟩ := by
  have h' : r < (⟨tabR.toArray⟩ : ByteArray).size := h
  have := ext_one ⟨tabR.toArray⟩ r h'
  refine this.trans ?_
  congr 3
  rw [List.getD, List.getElem?_eq_getElem (show r < tabR.length from h)]; rfl
set_option maxHeartbeats 2000000 in
theorem rrepl_any (x : UInt8) (w : World) (h1 : 128 ≤ (x.toNat : Int)) (h2 : (x.toNat : Int) ≤ 191) :
    Calls Tryz.prog 236 #[.int .u8 x.toNat] w fun e w' => e = .returned (strV (replB x)) ∧ w = w' := by
  obtain ⟨n, hn⟩ : ∃ n : Nat, x.toNat = 128 + n := ⟨x.toNat - 128, by omega⟩
  have hn64 : n < 64 := by omega
  have hx : x = UInt8.ofNat (128 + n) := by rw [← hn]; simp
  have hR : replB x = replR n := by rw [hx]; exact replB_is ⟨n, hn64⟩
  have hand : bits .and .u8 (x.toNat : Int) 31 = ((n % 32 : Nat) : Int) := by
    have := List.all_eq_true.1 and_31 n (List.mem_range.2 hn64)
    rw [hn]; simpa using this
  obtain ⟨r, hr⟩ : ∃ r, n % 32 = r := ⟨_, rfl⟩
  have hr32 : r < 32 := by omega
  have hRr : replR n = if r = 6 then [97, 101] else if r = 7 then [99] else if r = 23 then [] else if r = 30 then [116, 104] else if n = 31 then [115, 115] else if n = 63 then [121] else [tabR.getD r 0] := by unfold replR; rw [hr]
  rw [hR, hRr]
  rw [hr] at hand
  have hn1 : (x.toNat : Int) = 128 + (n : Int) := by omega
  have hb := x.toNat_lt
  have HR := Lib.hid hr; have HN := Lib.hid hn1
  clear hx hR hRr hr hn hn1
  by_cases c6 : r = 6
  · subst c6
    go_enter Tryz.func236, Tryz.ntmps236
    go_wp2_with fail
    go_ret
    exact ⟨rfl, rfl⟩
  · have e6 : ((r : Int) == 6) = false := by simp only [beq_eq_false_iff_ne, ne_eq]; omega
    rw [if_neg c6]
    by_cases c7 : r = 7
    · subst c7
      clear c6
      go_enter Tryz.func236, Tryz.ntmps236
      go_wp2_with fail
      go_ret
      exact ⟨rfl, rfl⟩
    · have e7 : ((r : Int) == 7) = false := by simp only [beq_eq_false_iff_ne, ne_eq]; omega
      rw [if_neg c7]
      by_cases c23 : r = 23
      · subst c23
        clear c6 c7
        go_enter Tryz.func236, Tryz.ntmps236
        go_wp2_with fail
        go_ret
        exact ⟨rfl, rfl⟩
      · have e23 : ((r : Int) == 23) = false := by simp only [beq_eq_false_iff_ne, ne_eq]; omega
        rw [if_neg c23]
        by_cases c30 : r = 30
        · subst c30
          clear c6 c7 c23
          go_enter Tryz.func236, Tryz.ntmps236
          go_wp2_with fail
          go_ret
          exact ⟨rfl, rfl⟩
        · have e30 : ((r : Int) == 30) = false := by simp only [beq_eq_false_iff_ne, ne_eq]; omega
          rw [if_neg c30]
          by_cases n31 : n = 31
          · have e31 : ((x.toNat : Int) == 159) = true := by simp only [beq_iff_eq]; rw [HN.out]; omega
            rw [if_pos n31]
            clear c6 c7 c23 c30 n31
            go_enter Tryz.func236, Tryz.ntmps236
            go_wp2_with fail
            go_ret
            exact ⟨rfl, rfl⟩
          · have e31 : ((x.toNat : Int) == 159) = false := by simp only [beq_eq_false_iff_ne, ne_eq]; rw [HN.out]; omega
            rw [if_neg n31]
            by_cases n63 : n = 63
            · have e63 : ((x.toNat : Int) == 191) = true := by simp only [beq_iff_eq]; rw [HN.out]; omega
              rw [if_pos n63]
              clear c6 c7 c23 c30 n31 n63
              go_enter Tryz.func236, Tryz.ntmps236
              go_wp2_with fail
              go_ret
              exact ⟨rfl, rfl⟩
            · have e63 : ((x.toNat : Int) == 191) = false := by simp only [beq_eq_false_iff_ne, ne_eq]; rw [HN.out]; omega
              rw [if_neg n63]
              have hext := tab_ext r hr32
              clear c6 c7 c23 c30 n31 n63
              go_enter Tryz.func236, Tryz.ntmps236
              go_wp2_with fail
              go_ret
              exact ⟨rfl, rfl⟩
end
section
set_option maxRecDepth 100000
open Go.RowKit
attribute [local go_sem] toList_mk mk_size bytes_append
/-- what one step of Fold does at place k: place k', what is added, what the raw text has there, is a separator due -/
structure FoldSt (s : ByteArray) (k : Nat) (b : Bool) (k' : Nat) (b' : Bool) (x y : List UInt8) : Prop where
  raw : rawL (s.data.toList.drop k) = y ++ rawL (s.data.toList.drop (k' + 1))
  val : validL (s.data.toList.drop (k' + 1)) = true
  lo : k ≤ k'
  hi : k' < s.size
  len : x.length ≤ 2
  way : (x = y ∧ b' = b ∧ ∀ c ∈ x, c ≠ 32) ∨ (x = [] ∧ y = [32] ∧ b' = true)
theorem replB_sp : ∀ n : Fin 64, ((replB (UInt8.ofNat (128 + n))).all fun c => c != 32) = true := by decide
theorem FoldSt.pair {s : ByteArray} {k : Nat} {b : Bool} (h2 : k + 1 < s.size) (hp : pairAt (s.data.toList.drop k) = true) (hv : validL (s.data.toList.drop k) = true) : FoldSt s k b (k + 1) b (replB s[k + 1]) (replB s[k + 1]) := by
  obtain ⟨_, g1, g2⟩ := pair_facts2 s k h2 hp
  refine ⟨raw_two s k h2 hp, by rw [← valid_two s k (by omega) hp]; exact hv, by omega, h2, (replB_ok _).2, .inl ⟨rfl, rfl, fun c hc => ?_⟩⟩
  obtain ⟨n, hn⟩ : ∃ n : Nat, s[k + 1].toNat = 128 + n := ⟨s[k + 1].toNat - 128, by omega⟩
  have hx : s[k + 1] = UInt8.ofNat (128 + n) := by rw [← hn]; simp
  have := replB_sp ⟨n, by omega⟩
  rw [hx] at hc
  simpa using List.all_eq_true.1 this c hc
theorem FoldSt.one {s : ByteArray} {k : Nat} {b : Bool} (hk : k < s.size) (hp : pairAt (s.data.toList.drop k) = false) (hv : validL (s.data.toList.drop k) = true) {x : List UInt8} (hx : plainB s[k] = x) (h32 : ∀ c ∈ x, c ≠ 32) : FoldSt s k b k b x x := by
  have h1 := valid_one s k hk hp
  rw [h1, Bool.and_eq_true] at hv
  exact ⟨by rw [raw_one s k hk hp, hx], hv.2, Nat.le_refl _, hk, by rw [← hx]; have := (plainB_ok s[k]).2; omega, .inl ⟨rfl, rfl, h32⟩⟩
theorem FoldSt.sep {s : ByteArray} {k : Nat} {b : Bool} (hk : k < s.size) (hp : pairAt (s.data.toList.drop k) = false) (hv : validL (s.data.toList.drop k) = true) (hx : plainB s[k] = [32]) : FoldSt s k b k true [] [32] := by
  have h1 := valid_one s k hk hp
  rw [h1, Bool.and_eq_true] at hv
  exact ⟨by rw [raw_one s k hk hp, hx], hv.2, Nat.le_refl _, hk, by simp, .inr ⟨rfl, rfl, rfl⟩⟩
theorem plain_no32 {c : UInt8} (h : isUp c = true ∨ isLow c = true ∨ isDgt c = true) : ∀ d ∈ plainB c, d ≠ 32 := by
  intro d hd
  unfold plainB at hd
  split at hd
  · rename_i hu
    simp at hd; subst hd
    rw [up_iff, decide_eq_true_iff] at hu
    intro e
    have : (c + 32).toNat = 32 := by rw [e]; rfl
    rw [UInt8.toNat_add] at this
    simp at this; omega
  · split at hd
    · rename_i h1 h2
      simp at hd; subst hd
      simp only [Bool.or_eq_true] at h2
      intro e; subst e
      rcases h2 with h2 | h2
      · rw [low_iff] at h2; simp at h2
      · rw [dig_iff] at h2; simp at h2
    · rename_i h1 h2
      exfalso
      rcases h with h | h | h
      · exact h1 h
      · exact h2 (by simp [h])
      · exact h2 (by simp [h])
/-- what the loop of Fold holds -/
structure FoldIn (s : ByteArray) (w : World) (k : Nat) (R : List UInt8) (b : Bool) (wr : World) : Prop where
  raw : R ++ rawL (s.data.toList.drop k) = rawL s.data.toList
  sep : b = endsSp R
  val : validL (s.data.toList.drop k) = true
  bel : Below w.heap.size w wr
theorem FoldIn.len {s : ByteArray} {w : World} {k : Nat} {R : List UInt8} {b : Bool} {wr : World} (h : FoldIn s w k R b wr) (hs : s.size ≤ 64) : (joinL (toks R)).length ≤ 64 := by
  have h1 := congrArg List.length h.raw
  have h2 := (raw_ok s.data.toList).2
  have h3 := (toksA_len R []).1
  have hl : s.data.toList.length = s.size := by simp
  unfold toks
  simp at h1 h3; omega
set_option maxHeartbeats 8000000 in
theorem rfold_yes (s : ByteArray) (w : World) (hv : foldV s.data.toList = true) :
    Calls Tryz.prog 177 #[.string s] w fun e w' => e = .returned (.tuple #[strV (foldL s.data.toList), .int .i64 0]) ∧ Below w.heap.size w w' := by
  have hl : s.data.toList.length = s.size := by simp
  have hv' := hv
  unfold foldV at hv'
  rw [Bool.and_eq_true, decide_eq_true_iff, hl] at hv'
  obtain ⟨hval, hs⟩ := hv'
  have HL := Lib.hid hl; have HV := Lib.hid hv
  have K0 := Lib.hid (show FoldIn s w 0 [] false w from ⟨rfl, rfl, hval, Below.refl _ _⟩)
  clear hl hv hval
  go_enter Tryz.func177, Tryz.ntmps177
  go_wp2_with fail
  refine (rvalid_text s _ (by omega)).mono ?_
  rw [HV.out]
  rintro e w' ⟨rfl, rfl⟩
  go_wp2_with fail
  go_loopw [4, 5, 6] (fun o t i wr => ∃ (k : Nat) (R : List UInt8) (b : Bool), k ≤ s.size ∧ o = strV (joinL (toks R)) ∧ t = .bool b ∧ i = .int .i64 k ∧ FoldIn s w k R b wr) (fun _ _ i _ => s.size - (intOf i).toNat)
  case atStart => exact ⟨0, [], false, by omega, rfl, rfl, rfl, K0.out⟩
  case round =>
    obtain ⟨k, R, b, hk, rfl, rfl, rfl, hin⟩ := hrel
    have hO := hin.len hs
    have HI := Lib.hid hin
    clear hin K0
    obtain ⟨O, hOe⟩ : ∃ O, joinL (toks R) = O := ⟨_, rfl⟩
    have HOe := Lib.hid hOe
    rw [hOe] at hO ⊢
    clear hOe
    by_cases hlt : k < s.size
    · have hq : decide ((k : Int) < s.size) = true := by simp; omega
      have hb := s[k].toNat_lt
      go_upto_block 2 with (fail)
      go_cut [5, 6, 8] (fun s5 s6 s8 wx => ∃ (k' : Nat) (b' : Bool) (x y : List UInt8), s5 = .bool b' ∧ s6 = .int .i64 k' ∧ s8 = strV x ∧ FoldSt s k b k' b' x y ∧ Below w.heap.size w wx)
      case first =>
        cases hp : pairAt (s.data.toList.drop k)
        · have hval := HI.out.val
          have hval2 := hval
          rw [valid_one s k hlt hp, Bool.and_eq_true] at hval2
          have hok := hval2.1
          rw [ok_iff, decide_eq_true_iff] at hok
          have e195 : ((s[k].toNat : Int) == 195) = false := by simp only [beq_eq_false_iff_ne, ne_eq]; omega
          have HP := Lib.hid hp; have HVl := Lib.hid hval
          clear hp hval hval2
          cases hu : isUp s[k]
          · have hu' := hu
            rw [up_iff, decide_eq_false_iff_not] at hu'
            have hcu : (65 ≤ (s[k].toNat : Int) ∧ 90 < (s[k].toNat : Int)) ∨ (s[k].toNat : Int) < 65 := by omega
            cases hlo : isLow s[k]
            · have hlo' := hlo
              rw [low_iff, decide_eq_false_iff_not] at hlo'
              have hcl : (97 ≤ (s[k].toNat : Int) ∧ 122 < (s[k].toNat : Int)) ∨ (s[k].toNat : Int) < 97 := by omega
              cases hdi : isDgt s[k]
              · have hdi' := hdi
                rw [dig_iff, decide_eq_false_iff_not] at hdi'
                have hcd : (48 ≤ (s[k].toNat : Int) ∧ 57 < (s[k].toNat : Int)) ∨ (s[k].toNat : Int) < 48 := by omega
                cases ha : ((s[k].toNat : Int) == 39)
                · have this : (s[k] == 39) = false := by simp at ha ⊢; intro h; rw [h] at ha; simp at ha
                  have hpl : plainB s[k] = [32] := by simp [plainB, hu, hlo, hdi, this]
                  have ha2 : ((s[k].toNat : Int) != 39) = true := by simpa using ha
                  have HS := Lib.hid (FoldSt.sep (b := b) hlt HP.out HVl.out hpl)
                  clear hu hu' hlo hlo' hdi hdi' this hpl hok
                  rcases hcu with ⟨g1, g2⟩ | g1 <;> rcases hcl with ⟨g3, g4⟩ | g3 <;> rcases hcd with ⟨g5, g6⟩ | g5
                  all_goals first
                    | (exfalso; omega)
                    | (go_wp2_with fail; go_meet; exact ⟨k, true, [], [32], rfl, rfl, rfl, HS.out, HI.out.bel⟩)
                · have this : (s[k] == 39) = true := by simp [← UInt8.toNat_inj] at ha ⊢; omega
                  have hpl : plainB s[k] = [] := by simp [plainB, hu, hlo, hdi, this]
                  have ha2 : ((s[k].toNat : Int) != 39) = false := by simpa using ha
                  have HS := Lib.hid (FoldSt.one (b := b) hlt HP.out HVl.out hpl (by simp))
                  clear hu hu' hlo hlo' hdi hdi' this hpl hok
                  rcases hcu with ⟨g1, g2⟩ | g1 <;> rcases hcl with ⟨g3, g4⟩ | g3 <;> rcases hcd with ⟨g5, g6⟩ | g5
                  all_goals first
                    | (exfalso; simp at ha; omega)
                    | (go_wp2_with fail; go_meet; exact ⟨k, b, [], [], rfl, rfl, rfl, HS.out, HI.out.bel⟩)
              · have hdi' := hdi
                rw [dig_iff, decide_eq_true_iff] at hdi'
                obtain ⟨g5, g6⟩ := hdi'
                have hpl : plainB s[k] = [s[k]] := by simp [plainB, hu, hlo, hdi]
                have HS := Lib.hid (FoldSt.one (b := b) hlt HP.out HVl.out hpl (by rw [← hpl]; exact plain_no32 (.inr (.inr hdi))))
                have hcv := one_byte wr s[k]
                have g1 : (s[k].toNat : Int) < 65 := by omega
                have g3 : (s[k].toNat : Int) < 97 := by omega
                clear hu hu' hlo hlo' hdi hpl hok hcu hcl
                go_wp2_with fail
                go_meet
                exact ⟨k, b, [s[k]], [s[k]], rfl, rfl, rfl, HS.out, HI.out.bel.alloc HI.out.bel.size _⟩
            · have hlo' := hlo
              rw [low_iff, decide_eq_true_iff] at hlo'
              obtain ⟨g3, g4⟩ := hlo'
              have hpl : plainB s[k] = [s[k]] := by simp [plainB, hu, hlo]
              have HS := Lib.hid (FoldSt.one (b := b) hlt HP.out HVl.out hpl (by rw [← hpl]; exact plain_no32 (.inr (.inl hlo))))
              have hcv := one_byte wr s[k]
              have g1 : 65 ≤ (s[k].toNat : Int) := by omega
              have g2 : 90 < (s[k].toNat : Int) := by omega
              clear hu hu' hlo hpl hok hcu
              go_wp2_with fail
              go_meet
              exact ⟨k, b, [s[k]], [s[k]], rfl, rfl, rfl, HS.out, HI.out.bel.alloc HI.out.bel.size _⟩
          · have hu' := hu
            rw [up_iff, decide_eq_true_iff] at hu'
            obtain ⟨g1, g2⟩ := hu'
            have hpl : plainB s[k] = [s[k] + 32] := by simp [plainB, hu]
            have HS := Lib.hid (FoldSt.one (b := b) hlt HP.out HVl.out hpl (by rw [← hpl]; exact plain_no32 (.inl hu)))
            have hcv := one_byte wr (s[k] + 32)
            have e2 : ((s[k] + 32).toNat : Int) = (s[k].toNat : Int) + 32 := by rw [UInt8.toNat_add]; simp; omega
            rw [e2] at hcv
            clear hu hpl hok e2
            go_wp2_with fail
            go_meet
            exact ⟨k, b, [s[k] + 32], [s[k] + 32], rfl, rfl, rfl, HS.out, HI.out.bel.alloc HI.out.bel.size _⟩
        · have h2 := pairAt_lt s k hlt hp
          obtain ⟨g0, g1, g2⟩ := pair_facts2 s k h2 hp
          have HS := Lib.hid (FoldSt.pair (b := b) h2 hp HI.out.val)
          have e195 : ((s[k].toNat : Int) == 195) = true := by rw [g0]; rfl
          clear hp g0
          go_wp2_with fail
          refine (rrepl_any s[k + 1] _ g1 g2).mono ?_
          rintro e w' ⟨rfl, rfl⟩
          go_wp2_with fail
          go_meet
          exact ⟨k + 1, b, replB s[k + 1], replB s[k + 1], rfl, by go_num, rfl, HS.out, HI.out.bel⟩
      case rest =>
        obtain ⟨k', b', x, y, rfl, rfl, rfl, hst, hbl⟩ := hcut
        have HS := Lib.hid hst; have HB := Lib.hid hbl
        have hk1 := hst.lo
        have hk2 := hst.hi
        have hxl := hst.len
        clear hst hbl
        by_cases hx : x = []
        · subst hx
          have KN : ∃ R', FoldIn s w (k' + 1) R' b' wc ∧ joinL (toks R') = O := by
            have hi := HI.out
            have hst := HS.out
            rcases hst.way with ⟨h1, h2, _⟩ | ⟨_, h1, h2⟩
            · subst h1; subst h2
              exact ⟨R, ⟨by have := hst.raw; simp only [List.nil_append] at this; rw [← this]; exact hi.raw, hi.sep, hst.val, HB.out⟩, HOe.out⟩
            · subst h1; subst h2
              exact ⟨R ++ [32], ⟨by rw [List.append_assoc, ← hst.raw]; exact hi.raw, (ends_snoc R 32).symm, hst.val, HB.out⟩, by rw [fold_space, HOe.out]⟩
          obtain ⟨R', hR1, hR2⟩ := KN
          have HR1 := Lib.hid hR1; have HR2 := Lib.hid hR2
          clear hR1 hR2
          go_wp2_with fail
          go_roundw
          case rel => exact ⟨k' + 1, R', b', by omega, by rw [HR2.out], rfl, by go_num, HR1.out⟩
          case measure => simp [intOf]; omega
        · have f1 : (x == []) = false := by simpa using hx
          have f2 : x.isEmpty = false := by simpa using hx
          have hst := HS.out
          obtain ⟨h1, h2, h3⟩ := hst.way.resolve_right (fun h => hx h.1)
          subst h1 h2
          have hmore := fold_more hx h3 R
          have hends := ends_app R hx h3
          have KN := Lib.hid (show FoldIn s w (k' + 1) (R ++ x) false wc from ⟨by rw [List.append_assoc, ← hst.raw]; exact HI.out.raw, hends.symm, hst.val, HB.out⟩)
          rw [← HI.out.sep, HOe.out] at hmore
          have HMore := Lib.hid hmore
          clear hst hmore hends h3 hx
          cases b'
          · go_wp2_with fail
            go_roundw
            case rel => exact ⟨k' + 1, R ++ x, false, by omega, by rw [HMore.out]; simp, rfl, by go_num, KN.out⟩
            case measure => simp [intOf]; omega
          · by_cases hO0 : O = []
            · have f3 : (O == []) = true := by rw [hO0]; rfl
              have f4 : (O != []) = false := by rw [hO0]; rfl
              have HO0 := Lib.hid hO0
              clear hO0
              go_wp2_with fail
              go_roundw
              case rel => exact ⟨k' + 1, R ++ x, false, by omega, by rw [HMore.out, HO0.out]; simp, rfl, by go_num, KN.out⟩
              case measure => simp [intOf]; omega
            · have f3 : (O == []) = false := by simpa using hO0
              have f4 : (O != []) = true := by simpa using hO0
              have f5 : O.isEmpty = false := by simpa using hO0
              have HO0 := Lib.hid hO0
              clear hO0
              go_wp2_with fail
              go_roundw
              case rel => exact ⟨k' + 1, R ++ x, false, by omega, by rw [HMore.out, if_pos ⟨rfl, HO0.out⟩]; simp, rfl, by go_num, KN.out⟩
              case measure => simp [intOf]; omega
    · have hq : decide ((k : Int) < s.size) = false := by simp; omega
      have hfin : foldL s.data.toList = O := by
        have hi := HI.out
        have hd : s.data.toList.drop k = [] := List.drop_eq_nil_of_le (by rw [HL.out]; omega)
        have hr := hi.raw
        rw [hd, show rawL [] = [] from rfl, List.append_nil] at hr
        unfold foldL
        rw [← hr]; exact HOe.out
      have HF := Lib.hid hfin
      clear hfin
      go_wp2_with fail
      go_ret2
      exact ⟨by show Ending.returned (.tuple #[strV O, .int .i64 0]) = _; rw [HF.out], HI.out.bel⟩
set_option maxHeartbeats 400000 in
theorem rfold_no (s : ByteArray) (w : World) (hs : s.size ≤ 9223372036854775000) (hv : foldV s.data.toList = false) :
    Calls Tryz.prog 177 #[.string s] w fun e w' => e = .returned (.tuple #[strV [], .int .i64 3]) ∧ Below w.heap.size w w' := by
  have HV := Lib.hid hv; clear hv
  go_enter Tryz.func177, Tryz.ntmps177
  go_wp2_with fail
  refine (rvalid_text s _ hs).mono ?_; rw [HV.out]; rintro e w' ⟨rfl, rfl⟩
  go_wp2_with fail
  go_ret2
  exact ⟨rfl, Below.refl _ _⟩
end
section
set_option maxRecDepth 100000
open Go.RowKit
attribute [local go_sem] toList_mk mk_size bytes_append
set_option maxHeartbeats 400000 in
theorem rtoken_any (l : List UInt8) (w : World) :
    Calls Tryz.prog 166 #[strV l] w fun e w' => e = .returned (.bool (tokenB l)) ∧ w = w' := by
  unfold tokenB
  by_cases h0 : l = []
  · subst h0
    go_enter Tryz.func166, Tryz.ntmps166
    go_wp2
    go_ret
    exact ⟨rfl, rfl⟩
  · have h1 : l.isEmpty = false := by simpa using h0
    have h2 : (l == []) = false := by simpa using h0
    have h2' : (l != []) = true := by simpa using h0
    rw [h1]
    by_cases h3 : l.length ≤ 64
    · have h4 : decide (l.length ≤ 64) = true := by simpa using h3
      have h5 : decide ((l.length : Int) ≤ 64) = true := by simp; omega
      rw [h4]
      clear h0 h4
      go_enter Tryz.func166, Tryz.ntmps166
      go_wp2_with fail
      refine (rletters_any ⟨l.toArray⟩ _ (by rw [mk_size]; omega)).mono ?_
      rw [show (⟨l.toArray⟩ : ByteArray).data.toList = l by simp]
      rintro e w1 ⟨rfl, rfl⟩
      go_wp2_with fail
      go_ret
      exact ⟨rfl, rfl⟩
    · have h4 : decide (l.length ≤ 64) = false := by simpa using h3
      have h5 : decide ((l.length : Int) ≤ 64) = false := by simp; omega
      rw [h4]
      clear h0 h4
      go_enter Tryz.func166, Tryz.ntmps166
      go_wp2_with fail
      go_ret
      exact ⟨rfl, rfl⟩
/-- each entry is greater than the one before -/
def ascAt (L : List (List UInt8)) (j : Nat) : Bool := decide (j = 0) || ltB (L.getD (j - 1) []) (L.getD j [])
def ascL (L : List (List UInt8)) : Bool := (List.range L.length).all (ascAt L)
theorem leq_less (x y : List UInt8) : (Op.bytesLess x y || x == y) = !Op.bytesLess y x := by
  rw [bytesLess_eq, bytesLess_eq, Bool.eq_iff_iff]
  simp only [Bool.or_eq_true, decide_eq_true_eq, beq_iff_eq, Bool.not_eq_true', decide_eq_false_iff_not]
  exact List.le_iff_lt_or_eq.symm
set_option maxHeartbeats 1000000 in
theorem rasc_any (S : Nat → Prop) (v : Value) (L : List (List UInt8)) (w : World) (h : Vec w S 1 encS v L) (hn : L.length ≤ 1000000) :
    Calls Tryz.prog 167 #[v] w fun e w' => e = .returned (.bool (ascL L)) ∧ Below w.heap.size w w' := by
  obtain ⟨a, cap, rfl⟩ := h.slice
  have HV := Lib.hid h; clear h
  go_enter Tryz.func167, Tryz.ntmps167
  go_wp2_with fail
  go_loopw [3] (fun i wr => ∃ m : Nat, i = .int .i64 (m + 1) ∧ m ≤ L.length ∧ Below w.heap.size w wr ∧ Hid (∀ j, j < m + 1 → j < L.length → ascAt L j = true)) (fun i _ => L.length + 1 - (intOf i).toNat)
  case atStart => exact ⟨0, rfl, by omega, Below.refl _ _, Lib.hid fun j hj _ => by (obtain rfl : j = 0 := by omega); rfl⟩
  case round =>
    obtain ⟨m, rfl, hm, hbw, HA⟩ := hrel
    have HW := Lib.hid hbw
    by_cases hlt : m + 1 < L.length
    · have hq : decide ((m : Int) + 1 < L.length) = true := by simp; omega
      obtain ⟨b, off, rfl, _, hb, hc⟩ := vec_cell1 HV.out (by omega)
      have c1 := (hbw.cell (p := ⟨b, off + (m + 1), none⟩) hb).trans (hc (m + 1) hlt)
      have c2 := (hbw.cell (p := ⟨b, off + m, none⟩) hb).trans (hc m (by omega))
      have hat : ascAt L (m + 1) = Op.bytesLess (L.getD m []) (L.getD (m + 1) []) := by simp [ascAt, ltB]
      obtain ⟨x, hx⟩ : ∃ x, L.getD (m + 1) [] = x := ⟨_, rfl⟩
      obtain ⟨y, hy⟩ : ∃ y, L.getD m [] = y := ⟨_, rfl⟩
      rw [hx] at c1 hat
      rw [hy] at c2 hat
      have hi1 : (m : Int) + 1 < (L.length : Int) := by omega
      have hi2 : (m : Int) < (L.length : Int) := by omega
      have hi3 : (0 : Int) ≤ (m : Int) + 1 := by omega
      have hleq := leq_less x y
      clear hc hx hy hbw
      cases hl : Op.bytesLess y x
      · rw [hl] at hat hleq
        have HAt := Lib.hid hat; clear hat hl
        have hleq' : (Op.bytesLess x y || x == y) = true := hleq
        clear hleq
        go_wp2_with fail
        go_quiet (fail)
        go_wp2_with fail
        go_ret
        exact ⟨ret_bool (by rw [ascL, all_false hlt HAt.out]), below_drewN HW.out _⟩
      · rw [hl] at hat hleq
        have HAt := Lib.hid hat; clear hat hl
        have hleq' : (Op.bytesLess x y || x == y) = false := hleq
        have g1 : Op.bytesLess x y = false := (Bool.or_eq_false_iff.1 hleq').1
        have g2 : (x == y) = false := (Bool.or_eq_false_iff.1 hleq').2
        clear hleq hleq'
        go_wp2_with fail
        go_quiet (fail)
        go_wp2_with fail
        go_roundw
        case rel => exact ⟨m + 1, by go_num, by omega, below_drewN HW.out _, Lib.hid fun j hj hjl => by
          by_cases e : j = m + 1
          · subst e; exact HAt.out
          · exact HA.out j (by omega) hjl⟩
        case measure => simp [intOf]; omega
    · have hq : decide ((m : Int) + 1 < L.length) = false := by simp; omega
      go_wp2_with fail
      go_ret
      exact ⟨ret_bool (by rw [ascL, all_true fun j hj => HA.out j (by omega) hj]), HW.out⟩
set_option maxHeartbeats 1000000 in
theorem rhas_any (S : Nat → Prop) (v : Value) (L : List (List UInt8)) (x : List UInt8) (w : World) (h : Vec w S 1 encS v L) (hn : L.length ≤ 1000000) :
    Calls Tryz.prog 169 #[v, strV x] w fun e w' => e = .returned (.bool (hasB L x)) ∧ w = w' := by
  obtain ⟨a, cap, rfl⟩ := h.slice
  have HV := Lib.hid h; clear h
  go_enter Tryz.func169, Tryz.ntmps169
  go_wp2_with fail
  go_loop [5] (fun i => ∃ k : Nat, k ≤ L.length ∧ i = .int .i64 k ∧ Hid (∀ j, j < k → L.getD j [] ≠ x)) (fun i => L.length - (intOf i).toNat)
  case atStart => exact ⟨0, by omega, rfl, Lib.hid fun j hj => by omega⟩
  case round =>
    obtain ⟨k, hk, rfl, HA⟩ := hrel
    by_cases hlt : k < L.length
    · have hq : decide ((k : Int) < L.length) = true := by simp; omega
      obtain ⟨b, off, rfl, _, hb, hc⟩ := vec_cell1 HV.out (by omega)
      have c1 := hc k hlt
      have hm : L.getD k [] ∈ L := by rw [List.getD, List.getElem?_eq_getElem hlt]; exact List.getElem_mem hlt
      obtain ⟨y, hy⟩ : ∃ y, L.getD k [] = y := ⟨_, rfl⟩
      rw [hy] at c1 hm
      have HY := Lib.hid hy; have HM := Lib.hid hm
      clear hc hy hm
      by_cases he : y = x
      · subst he
        go_wp2_with fail
        go_ret
        exact ⟨ret_bool (by unfold hasB; rw [List.any_eq_true.2 ⟨y, HM.out, by simp⟩]), rfl⟩
      · have e1 : (y == x) = false := by simpa using he
        have HE := Lib.hid he; clear he
        go_wp2_with fail
        go_round
        case rel => exact ⟨k + 1, by omega, by go_num, Lib.hid fun j hj => by
          by_cases e : j = k
          · subst e; rw [HY.out]; exact HE.out
          · exact HA.out j (by omega)⟩
        case measure => simp [intOf]; omega
    · have hq : decide ((k : Int) < L.length) = false := by simp; omega
      go_wp2_with fail
      go_ret
      refine ⟨ret_bool ?_, rfl⟩
      symm
      unfold hasB
      rw [List.any_eq_false]
      intro y hy
      obtain ⟨j, hj, rfl⟩ := List.getElem_of_mem hy
      have := HA.out j (by omega)
      rw [List.getD, List.getElem?_eq_getElem hj] at this
      simpa using this
end
section
set_option maxRecDepth 100000
open Go.RowKit
attribute [local go_sem] toList_mk mk_size bytes_append
theorem canon_drop {L : List P2} {s : List UInt8} (k : Nat) (hk : k < L.length) : canonL (L.drop k) s = if (L.getD k default).1 = s then (L.getD k default).2 else canonL (L.drop (k + 1)) s := by
  rw [List.drop_eq_getElem_cons hk, List.getD, List.getElem?_eq_getElem hk]
  simp only [Option.getD_some, canonL, beq_iff_eq]
set_option maxHeartbeats 1000000 in
theorem rreplace_any (S : Nat → Prop) (v : Value) (L : List P2) (x : List UInt8) (w : World) (h : Vec w S 2 encP v L) (hn : L.length ≤ 1000000) :
    Calls Tryz.prog 183 #[v, strV x] w fun e w' => e = .returned (strV (canonL L x)) ∧ w = w' := by
  obtain ⟨a, cap, rfl⟩ := h.slice
  have HV := Lib.hid h; clear h
  go_enter Tryz.func183, Tryz.ntmps183
  go_wp2_with fail
  go_loop [5] (fun i => ∃ k : Nat, k ≤ L.length ∧ i = .int .i64 k ∧ Hid (canonL L x = canonL (L.drop k) x)) (fun i => L.length - (intOf i).toNat)
  case atStart => exact ⟨0, by omega, rfl, Lib.hid rfl⟩
  case round =>
    obtain ⟨k, hk, rfl, HA⟩ := hrel
    by_cases hlt : k < L.length
    · have hq : decide ((k : Int) < L.length) = true := by simp; omega
      obtain ⟨b, off, rfl, _, hb, hc⟩ := vec_cell2 HV.out (by omega)
      have c0 := hc k hlt 0 _ rfl
      have c1 := hc k hlt 1 _ rfl
      rw [Nat.add_zero] at c0
      have hd := canon_drop (s := x) k hlt
      obtain ⟨⟨y, z⟩, hy⟩ : ∃ y, L.getD k default = y := ⟨_, rfl⟩
      rw [hy] at c0 c1 hd
      dsimp only at c0 c1 hd
      have HD := Lib.hid hd
      clear hc hy hd
      by_cases he : y = x
      · subst he
        go_wp2_with fail
        go_ret
        exact ⟨by show Ending.returned (strV z) = .returned (strV (canonL L y)); rw [HA.out, HD.out]; simp, rfl⟩
      · have e1 : (y == x) = false := by simpa using he
        have HE := Lib.hid he; clear he
        go_wp2_with fail
        go_round
        case rel => exact ⟨k + 1, by omega, by go_num, Lib.hid (by rw [HA.out, HD.out, if_neg HE.out])⟩
        case measure => simp [intOf]; omega
    · have hq : decide ((k : Int) < L.length) = false := by simp; omega
      have hfin : canonL L x = x := by rw [HA.out, List.drop_eq_nil_of_le (by omega)]; rfl
      have HF := Lib.hid hfin; clear hfin
      go_wp2_with fail
      go_ret
      exact ⟨by show Ending.returned (strV x) = .returned (strV (canonL L x)); rw [HF.out], rfl⟩
set_option maxHeartbeats 400000 in
theorem rcanonical_any (S : Nat → Prop) (vt vn vs : Value) (L : List P2) (x : List UInt8) (w : World) (h : Vec w S 2 encP vn L) (hn : L.length ≤ 1000000) :
    Calls Tryz.prog 180 #[.agg #[vt, vn, vs], strV x] w fun e w' => e = .returned (strV (canonL L x)) ∧ Below w.heap.size w w' := by
  have HV := Lib.hid h; clear h
  go_enter Tryz.func180, Tryz.ntmps180
  go_wp2_with fail
  refine (rreplace_any S vn L x _ (HV.out.below ((Below.refl _ _).alloc (Nat.le_refl _) _)) hn).mono ?_
  rintro e w' ⟨rfl, rfl⟩
  go_wp2_with fail
  go_ret
  exact ⟨rfl, (Below.refl _ _).alloc (Nat.le_refl _) _⟩
set_option maxHeartbeats 400000 in
theorem rdropped_any (S : Nat → Prop) (vt vn vs : Value) (L : List (List UInt8)) (x : List UInt8) (w : World) (h : Vec w S 1 encS vt L) (hn : L.length ≤ 1000000) :
    Calls Tryz.prog 179 #[.agg #[vt, vn, vs], strV x] w fun e w' => e = .returned (.bool (hasB L x)) ∧ Below w.heap.size w w' := by
  have HV := Lib.hid h; clear h
  go_enter Tryz.func179, Tryz.ntmps179
  go_wp2_with fail
  refine (rhas_any S vt L x _ (HV.out.below ((Below.refl _ _).alloc (Nat.le_refl _) _)) hn).mono ?_
  rintro e w' ⟨rfl, rfl⟩
  go_wp2_with fail
  go_ret
  exact ⟨rfl, (Below.refl _ _).alloc (Nat.le_refl _) _⟩
theorem find_has_from (s : List UInt8) : ∀ (L : List P2) (i : Nat), decide (Lib.idxByFrom (fun _ (y : P2) => y.1 == s) default L i < 0) = !hasB (L.map (·.1)) s := by
  intro L
  induction L with
  | nil => intro i; simp [Lib.idxByFrom, hasB]
  | cons p L ih =>
    intro i
    have e : hasB ((p :: L).map (·.1)) s = (p.1 == s || hasB (L.map (·.1)) s) := by simp [hasB]
    rw [e]
    cases h : p.1 == s
    · simp only [Lib.idxByFrom, h, Bool.false_eq_true, if_false, Bool.false_or]
      exact ih (i + 1)
    · simp only [Lib.idxByFrom, h, if_true, Bool.true_or, Bool.not_true]
      simp
theorem find_has (L : List P2) (s : List UInt8) : decide (findI L s < 0) = !hasB (L.map (·.1)) s := find_has_from s L 0
theorem map_getD (L : List P2) (j : Nat) (h : j < L.length) : (L.map (·.1)).getD j [] = (L.getD j default).1 := by
  rw [List.getD, List.getD, List.getElem?_map, List.getElem?_eq_getElem h]; rfl
theorem pairAt_is (L : List P2) (j : Nat) (h : j < L.length) : pairAtB L j = (tokenB (L.getD j default).1 && tokenB (L.getD j default).2 && ascAt (L.map (·.1)) j && !hasB (L.map (·.1)) (L.getD j default).2) := by
  unfold pairAtB ascAt
  rw [find_has, map_getD L j h]
  by_cases h0 : j = 0
  · subst h0; simp
  · rw [map_getD L (j - 1) (by omega)]
theorem pairs_no_tok {L : List P2} {j : Nat} (h : j < L.length) (ht : (tokenB (L.getD j default).1 && tokenB (L.getD j default).2) = false) : pairsB L = false := by
  unfold pairsB
  exact all_false h (by rw [pairAt_is L j h, ht]; simp)
theorem pairs_no_has {L : List P2} {j : Nat} (h : j < L.length) (ht : hasB (L.map (·.1)) (L.getD j default).2 = true) : pairsB L = false := by
  unfold pairsB
  exact all_false h (by rw [pairAt_is L j h, ht]; simp)
theorem pairs_asc {L : List P2} (h1 : ∀ j, j < L.length → (tokenB (L.getD j default).1 && tokenB (L.getD j default).2) = true) (h2 : ∀ j, j < L.length → hasB (L.map (·.1)) (L.getD j default).2 = false) : pairsB L = ascL (L.map (·.1)) := by
  unfold pairsB ascL
  rw [List.length_map]
  refine Bool.eq_iff_iff.2 ⟨fun h => ?_, fun h => ?_⟩
  · refine List.all_eq_true.2 fun j hj => ?_
    have := List.all_eq_true.1 h j hj
    rw [pairAt_is L j (List.mem_range.1 hj)] at this
    simp only [Bool.and_eq_true] at this
    exact this.1.2
  · refine List.all_eq_true.2 fun j hj => ?_
    have := List.all_eq_true.1 h j hj
    have hj' := List.mem_range.1 hj
    rw [pairAt_is L j hj', h1 j hj', h2 j hj', this]; rfl
theorem flat_fst_snoc (L : List P2) (k : Nat) (h : k < L.length) : (L.take (k + 1)).map (·.1) = (L.take k).map (·.1) ++ [(L.getD k default).1] := by
  rw [take_snocA L k h, List.map_append]; rfl
set_option maxHeartbeats 2000000 in
theorem rpairs_any (S : Nat → Prop) (v : Value) (L : List P2) (w : World) (h : Vec w S 2 encP v L) (hn : L.length ≤ 1000000) :
    Calls Tryz.prog 168 #[v] w fun e w' => e = .returned (.bool (pairsB L)) ∧ Below w.heap.size w w' := by
  obtain ⟨a, cap, rfl⟩ := h.slice
  have HV := Lib.hid h; clear h
  go_enter Tryz.func168, Tryz.ntmps168
  go_wp2_with fail
  go_loopw [3, 4] (fun f i wr => ∃ k : Nat, k ≤ L.length ∧ i = .int .i64 k ∧ OwnAt w f ((L.take k).map (·.1)) wr ∧ Hid (∀ j, j < k → (tokenB (L.getD j default).1 && tokenB (L.getD j default).2) = true)) (fun _ i _ => L.length - (intOf i).toNat)
  case atStart => exact ⟨0, by omega, rfl, OwnAt.start w, Lib.hid fun j hj => by omega⟩
  case round =>
    obtain ⟨k, hk, rfl, ho, HA⟩ := hrel
    have HO := Lib.hid ho; clear ho
    by_cases hlt : k < L.length
    · have hq : decide ((k : Int) < L.length) = true := by simp; omega
      obtain ⟨b, off, rfl, _, hb, hc⟩ := vec_cell2 HV.out (by omega)
      have k0 := hc k hlt 0 _ rfl
      rw [Nat.add_zero] at k0
      have c0 := (HO.out.2.cell (p := ⟨b, off + k * 2, none⟩) hb).trans k0
      clear k0
      have c1 := (HO.out.2.cell (p := ⟨b, off + k * 2 + 1, none⟩) hb).trans (hc k hlt 1 _ rfl)
      have hfs := flat_fst_snoc L k hlt
      have hno := pairs_no_tok (L := L) (j := k) hlt
      obtain ⟨⟨y, z⟩, hy⟩ : ∃ y, L.getD k default = y := ⟨_, rfl⟩
      rw [hy] at c0 c1 hfs hno
      dsimp only at c0 c1 hfs hno
      have HFs := Lib.hid hfs; have HNo := Lib.hid hno; have HY := Lib.hid hy
      clear hc hy hfs hno
      go_wp2_with fail
      refine (rtoken_any y _).mono ?_
      cases ht : tokenB y
      · rintro e w' ⟨rfl, rfl⟩
        have HT := Lib.hid ht; clear ht
        go_wp2_with fail
        go_ret
        exact ⟨ret_bool (by rw [HNo.out (by rw [HT.out]; rfl)]), HO.out.2⟩
      · rintro e w' ⟨rfl, rfl⟩
        have HT := Lib.hid ht; clear ht
        go_wp2_with fail
        refine (rtoken_any z _).mono ?_
        cases ht2 : tokenB z
        · rintro e w' ⟨rfl, rfl⟩
          have HT2 := Lib.hid ht2; clear ht2
          go_wp2_with fail
          go_ret
          exact ⟨ret_bool (by rw [HNo.out (by rw [HT.out, HT2.out]; rfl)]), HO.out.2⟩
        · rintro e w' ⟨rfl, rfl⟩
          have HT2 := Lib.hid ht2; clear ht2
          have hlen : ((L.take k).map (·.1)).length < 1099511627776 := by have := List.length_take_le k L; rw [List.length_map]; omega
          have hone : ∀ u ∈ (#[strV y] : Array Value).toList, u.oneCell' = true := by intro u hu; simp at hu; subst hu; rfl
          go_wp2_with (at_builtin; refine wpList_append_new rfl _ _ 28 rfl w.heap.size 9 1 16 (.string ⟨#[]⟩) Tryz.underlying28 infoS rfl (by decide) (by decide) _ _ _ rfl HO.out.1 #[strV y] 1 rfl rfl hone hlen HO.out.2.size ?_; intro v2 w8 ho8 hw8)
          go_roundw
          case rel => exact ⟨k + 1, by omega, by go_num, ⟨by rw [HFs.out, List.length_append, flat_snoc]; exact ho8, hw8 _ HO.out.2⟩, Lib.hid fun j hj => by
            by_cases e : j = k
            · subst e; rw [HY.out, HT.out, HT2.out]; rfl
            · exact HA.out j (by omega)⟩
          case measure => simp [intOf]; omega
    · have hq : decide ((k : Int) < L.length) = false := by simp; omega
      obtain rfl : k = L.length := by omega
      rw [List.take_of_length_le (Nat.le_refl _)] at HO
      have HF := Lib.hid (Vec.owns (S := Any1) (k := 1) (enc := encS) (fun _ => rfl) HO.out.1 (fun _ _ _ => trivial))
      have hml : (L.map (·.1)).length ≤ 1000000 := by rw [List.length_map]; exact hn
      obtain ⟨wo, rfl⟩ : ∃ wo : World, wo = wr := ⟨_, rfl⟩
      go_wp2_with fail
      go_loopw [5] (fun i wr => ∃ k : Nat, k ≤ L.length ∧ i = .int .i64 k ∧ wr = wo ∧ Hid (∀ j, j < k → hasB (L.map (·.1)) (L.getD j default).2 = false)) (fun i _ => L.length - (intOf i).toNat)
      case atStart => exact ⟨0, by omega, rfl, rfl, Lib.hid fun j hj => by omega⟩
      case round =>
        obtain ⟨k, hk2, rfl, rfl, HB⟩ := hrel
        by_cases hlt2 : k < L.length
        · have hq2 : decide ((k : Int) < L.length) = true := by simp; omega
          obtain ⟨b, off, rfl, _, hb, hc⟩ := vec_cell2 HV.out (by omega)
          have c1 := (HO.out.2.cell (p := ⟨b, off + k * 2 + 1, none⟩) hb).trans (hc k hlt2 1 _ rfl)
          have hno := pairs_no_has (L := L) (j := k) hlt2
          obtain ⟨⟨y, z⟩, hy⟩ : ∃ y, L.getD k default = y := ⟨_, rfl⟩
          rw [hy] at c1 hno
          dsimp only at c1 hno
          have HNo := Lib.hid hno; have HY := Lib.hid hy
          clear hc hy hno
          go_wp2_with fail
          refine (rhas_any Any1 _ (L.map (·.1)) z _ HF.out hml).mono ?_
          cases ht : hasB (L.map (·.1)) z
          · rintro e w' ⟨rfl, rfl⟩
            have HT := Lib.hid ht; clear ht
            go_wp2_with fail
            go_roundw
            case rel => exact ⟨k + 1, by omega, by go_num, by trivial, Lib.hid fun j hj => by
              by_cases e : j = k
              · subst e; rw [HY.out]; exact HT.out
              · exact HB.out j (by omega)⟩
            case measure => simp [intOf]; omega
          · rintro e w' ⟨rfl, rfl⟩
            have HT := Lib.hid ht; clear ht
            go_wp2_with fail
            go_ret
            exact ⟨ret_bool (by rw [HNo.out HT.out]), HO.out.2⟩
        · have hq2 : decide ((k : Int) < L.length) = false := by simp; omega
          have hfin := pairs_asc (L := L) HA.out (fun j hj => HB.out j (by omega))
          have HFin := Lib.hid hfin; clear hfin
          go_wp2_with fail
          refine (rasc_any Any1 _ (L.map (·.1)) _ HF.out hml).mono ?_
          rintro e w2 ⟨rfl, hb2⟩
          have HB2 := Lib.hid (HO.out.2.trans (hb2.mono HO.out.2.size))
          clear hb2
          go_wp2_with fail
          go_ret
          exact ⟨ret_bool (by rw [HFin.out]), HB2.out⟩
end
section
set_option maxRecDepth 100000
open Go.RowKit
attribute [local go_sem] toList_mk mk_size bytes_append
theorem titles_is {L : List (List UInt8)} (h : ∀ j, j < L.length → tokenB (L.getD j []) = true) : titlesB L = ascL L := by
  unfold titlesB ascL
  refine Bool.eq_iff_iff.2 ⟨fun g => ?_, fun g => ?_⟩
  · refine List.all_eq_true.2 fun j hj => ?_
    have := List.all_eq_true.1 g j hj
    unfold titleAt at this
    rw [Bool.and_eq_true] at this
    exact this.2
  · refine List.all_eq_true.2 fun j hj => ?_
    have := List.all_eq_true.1 g j hj
    unfold titleAt
    rw [h j (List.mem_range.1 hj)]
    exact this
theorem titles_no {L : List (List UInt8)} {j : Nat} (h : j < L.length) (ht : tokenB (L.getD j []) = false) : titlesB L = false := by
  unfold titlesB
  exact all_false h (by unfold titleAt; rw [ht]; rfl)
set_option maxHeartbeats 8000000 in
theorem rncheck_any (S : Nat → Prop) (vt vn vs : Value) (r : RulesL) (w : World) (h : RulesAt w S vt vn vs r) :
    Calls Tryz.prog 119 #[.agg #[vt, vn, vs]] w fun e w' => e = .returned (.int .i64 (checkR r)) ∧ Below w.heap.size w w' := by
  obtain ⟨lt, ln, ls⟩ := r
  obtain ⟨h1, h2, h3⟩ := h
  dsimp only at h1 h2 h3
  obtain ⟨at1, ct, rfl⟩ := h1.slice
  obtain ⟨an, cn, rfl⟩ := h2.slice
  obtain ⟨as', cs, rfl⟩ := h3.slice
  have H1 := Lib.hid h1.any; have H2 := Lib.hid h2.any; have H3 := Lib.hid h3.any
  clear h1 h2 h3
  have hfin : ∀ n : Int, checkR ⟨lt, ln, ls⟩ = n → Ending.returned (.int .i64 n) = .returned (.int .i64 (checkR ⟨lt, ln, ls⟩)) := fun n h => by rw [h]
  have HF := Lib.hid hfin; clear hfin
  by_cases g1 : 32 < lt.length
  · have e1 : decide ((32 : Int) < lt.length) = true := by simp; omega
    go_enter Tryz.func119, Tryz.ntmps119
    go_wp2_with fail
    go_ret
    exact ⟨HF.out 1 (by unfold checkR; rw [if_pos (.inl g1)]), (Below.refl _ _).alloc (Nat.le_refl _) _⟩
  · have e1 : decide ((32 : Int) < lt.length) = false := by simp; omega
    by_cases g2 : 32 < ln.length
    · have e2 : decide ((32 : Int) < ln.length) = true := by simp; omega
      go_enter Tryz.func119, Tryz.ntmps119
      go_wp2_with fail
      go_ret
      exact ⟨HF.out 1 (by unfold checkR; rw [if_pos (.inr (.inl g2))]), (Below.refl _ _).alloc (Nat.le_refl _) _⟩
    · have e2 : decide ((32 : Int) < ln.length) = false := by simp; omega
      by_cases g3 : 32 < ls.length
      · have e3 : decide ((32 : Int) < ls.length) = true := by simp; omega
        go_enter Tryz.func119, Tryz.ntmps119
        go_wp2_with fail
        go_ret
        exact ⟨HF.out 1 (by unfold checkR; rw [if_pos (.inr (.inr g3))]), (Below.refl _ _).alloc (Nat.le_refl _) _⟩
      · have e3 : decide ((32 : Int) < ls.length) = false := by simp; omega
        have hle : ¬ (32 < lt.length ∨ 32 < ln.length ∨ 32 < ls.length) := by omega
        have HLe := Lib.hid hle; clear hle
        go_enter Tryz.func119, Tryz.ntmps119
        go_wp2_with fail
        clear e1 e2 e3
        refine wp_world (fun W hW => ?_)
        have HX := Lib.hid (show W.heap[w.heap.size]? = some (.cells #[.slice at1 lt.length ct, .slice an ln.length cn, .slice as' ls.length cs] 31 (0, 0)) from by rw [hW]; exact blk_new rfl)
        have HB := Lib.hid (show Below w.heap.size w W from by rw [hW]; exact (Below.refl _ _).alloc (Nat.le_refl _) _)
        have zW : w.heap.size < W.heap.size := lt_of_blk HX.out
        clear hW
        obtain ⟨p0, p1, p2⟩ := cells3 HX.out
        go_loop [3] (fun i => ∃ k : Nat, k ≤ lt.length ∧ i = .int .i64 k ∧ Hid (∀ j, j < k → tokenB (lt.getD j []) = true)) (fun i => lt.length - (intOf i).toNat)
        case atStart => exact ⟨0, by omega, rfl, Lib.hid fun j hj => by omega⟩
        case round =>
          obtain ⟨k, hk, rfl, HA⟩ := hrel
          by_cases hlt : k < lt.length
          · have hq : decide ((k : Int) < lt.length) = true := by simp; omega
            obtain ⟨b, off, rfl, _, hb, hc⟩ := vec_cell1 (H1.out.below HB.out) (by omega)
            have c1 := hc k hlt
            obtain ⟨x, hx⟩ : ∃ x, lt.getD k [] = x := ⟨_, rfl⟩
            rw [hx] at c1
            have HXx := Lib.hid hx
            clear hc hx
            go_wp2_with fail
            refine (rtoken_any x _).mono ?_
            cases ht : tokenB x
            · rintro e w' ⟨rfl, rfl⟩
              have HT := Lib.hid ht; clear ht
              go_wp2_with fail
              go_ret
              exact ⟨HF.out 5 (by unfold checkR; rw [if_neg HLe.out, titles_no (j := k) hlt (by rw [HXx.out]; exact HT.out)]; simp), HB.out⟩
            · rintro e w' ⟨rfl, rfl⟩
              have HT := Lib.hid ht; clear ht
              go_wp2_with fail
              go_round
              case rel => exact ⟨k + 1, by omega, by go_num, Lib.hid fun j hj => by
                by_cases e : j = k
                · subst e; rw [HXx.out]; exact HT.out
                · exact HA.out j (by omega)⟩
              case measure => simp [intOf]; omega
          · have hq : decide ((k : Int) < lt.length) = false := by simp; omega
            have hti := Lib.hid (titles_is (L := lt) (fun j hj => HA.out j (by omega)))
            go_wp2_with fail
            refine (rasc_any Any1 _ lt _ (H1.out.below HB.out) (by omega)).mono ?_
            rw [← hti.out]
            rintro e w1 ⟨rfl, hb1⟩
            have HX1 := Lib.hid (blk_below hb1 zW HX.out)
            have HB1 := Lib.hid (HB.out.trans (hb1.mono HB.out.size))
            clear hb1 p0 p1 p2
            obtain ⟨p0, p1, p2⟩ := cells3 HX1.out
            have z1 : w.heap.size < w1.heap.size := lt_of_blk HX1.out
            cases ht : titlesB lt
            · have HT := Lib.hid ht; clear ht
              go_wp2_with fail
              go_ret
              exact ⟨HF.out 5 (by unfold checkR; rw [if_neg HLe.out, HT.out]; simp), HB1.out⟩
            · have HT := Lib.hid ht; clear ht
              go_wp2_with fail
              refine (rpairs_any Any1 _ ln _ (H2.out.below HB1.out) (by omega)).mono ?_
              rintro e w2 ⟨rfl, hb2⟩
              have HX2 := Lib.hid (blk_below hb2 z1 HX1.out)
              have HB2 := Lib.hid (HB1.out.trans (hb2.mono HB1.out.size))
              clear hb2 p0 p1 p2
              obtain ⟨p0, p1, p2⟩ := cells3 HX2.out
              have z2 : w.heap.size < w2.heap.size := lt_of_blk HX2.out
              cases hp : pairsB ln
              · have HP := Lib.hid hp; clear hp
                go_wp2_with fail
                go_ret
                exact ⟨HF.out 5 (by unfold checkR; rw [if_neg HLe.out, HT.out, HP.out]; simp), HB2.out⟩
              · have HP := Lib.hid hp; clear hp
                go_wp2_with fail
                refine (rpairs_any Any1 _ ls _ (H3.out.below HB2.out) (by omega)).mono ?_
                rintro e w3 ⟨rfl, hb3⟩
                have HX3 := Lib.hid (blk_below hb3 z2 HX2.out)
                have HB3 := Lib.hid (HB2.out.trans (hb3.mono HB2.out.size))
                clear hb3 p0 p1 p2
                cases hs : pairsB ls
                · have HS := Lib.hid hs; clear hs
                  go_wp2_with fail
                  go_ret
                  exact ⟨HF.out 5 (by unfold checkR; rw [if_neg HLe.out, HT.out, HP.out, HS.out]; simp), HB3.out⟩
                · have HS := Lib.hid hs; clear hs
                  have hck : checkR ⟨lt, ln, ls⟩ = if (ln.any fun x => hasB lt x.2) = true then 5 else 0 := by
                    unfold checkR
                    rw [if_neg HLe.out, HT.out, HP.out, HS.out]; simp
                  have HCk := Lib.hid hck; clear hck
                  go_wp2_with fail
                  go_loopw [4] (fun i wr => ∃ k : Nat, k ≤ ln.length ∧ i = .int .i64 k ∧ Below w3.heap.size w3 wr ∧ Hid (∀ j, j < k → hasB lt (ln.getD j default).2 = false)) (fun i _ => ln.length - (intOf i).toNat)
                  case atStart => exact ⟨0, by omega, rfl, Below.refl _ _, Lib.hid fun j hj => by omega⟩
                  case round =>
                    obtain ⟨k, hk2, rfl, hbw, HH⟩ := hrel
                    have HW := Lib.hid (HB3.out.trans (hbw.mono HB3.out.size))
                    have HXw := Lib.hid (blk_below hbw (lt_of_blk HX3.out) HX3.out)
                    have HBw := Lib.hid hbw
                    clear hbw
                    have zw := lt_of_blk HXw.out
                    obtain ⟨p0, p1, p2⟩ := cells3 HXw.out
                    by_cases hlt2 : k < ln.length
                    · have hq2 : decide ((k : Int) < ln.length) = true := by simp; omega
                      have hi : (k : Int) < (ln.length : Int) := by omega
                      obtain ⟨b, off, rfl, _, hb, hc⟩ := vec_cell2 (H2.out.below HW.out) (by omega)
                      have c1 := hc k hlt2 1 _ rfl
                      obtain ⟨⟨y, z⟩, hy⟩ : ∃ y, ln.getD k default = y := ⟨_, rfl⟩
                      have hmem : ln.getD k default ∈ ln := by rw [List.getD, List.getElem?_eq_getElem hlt2]; exact List.getElem_mem hlt2
                      rw [hy] at c1 hmem
                      dsimp only at c1
                      have HY := Lib.hid hy; have HM := Lib.hid hmem
                      clear hc hy hmem
                      go_wp2_with fail
                      refine wp_region_noPanic ?_
                      refine wp_region_held_drew (S := (fun w' => w'.cell? ⟨w.heap.size, 0, none⟩ = some (.slice at1 lt.length ct) ∧ w'.cell? ⟨w.heap.size, 1, none⟩ = some (.slice (some ⟨b, off, none⟩) ln.length cn) ∧ w'.cell? ⟨b, off + k * 2 + 1, none⟩ = some (strV z))) (by kernel_rfl) (⟨p0, p1, c1⟩) (fun hHeld => ?_)
                      refine tH 0 (h := ?_)
                      try simp only [List.getElem_toArray, List.getElem_cons_zero, List.getElem_cons_succ, Act.put, List.setIfInBounds_toArray, List.set_cons_zero, List.set_cons_succ]
                      refine tH 1 (h := ?_)
                      try simp only [List.getElem_toArray, List.getElem_cons_zero, List.getElem_cons_succ, Act.put, List.setIfInBounds_toArray, List.set_cons_zero, List.set_cons_succ]
                      refine tH 2 (h := ?_)
                      try simp only [List.getElem_toArray, List.getElem_cons_zero, List.getElem_cons_succ, Act.put, List.setIfInBounds_toArray, List.set_cons_zero, List.set_cons_succ]
                      refine tH 3 (h := ?_)
                      try simp only [List.getElem_toArray, List.getElem_cons_zero, List.getElem_cons_succ, Act.put, List.setIfInBounds_toArray, List.set_cons_zero, List.set_cons_succ]
                      refine tH 4 (h := ?_)
                      try simp only [List.getElem_toArray, List.getElem_cons_zero, List.getElem_cons_succ, Act.put, List.setIfInBounds_toArray, List.set_cons_zero, List.set_cons_succ]
                      refine tH 5 (h := ?_)
                      try simp only [List.getElem_toArray, List.getElem_cons_zero, List.getElem_cons_succ, Act.put, List.setIfInBounds_toArray, List.set_cons_zero, List.set_cons_succ]
                      refine tH 6 (h := ?_)
                      try simp only [List.getElem_toArray, List.getElem_cons_zero, List.getElem_cons_succ, Act.put, List.setIfInBounds_toArray, List.set_cons_zero, List.set_cons_succ]
                      refine tH 7 (h := ?_)
                      try simp only [List.getElem_toArray, List.getElem_cons_zero, List.getElem_cons_succ, Act.put, List.setIfInBounds_toArray, List.set_cons_zero, List.set_cons_succ]
                      refine wpAnyH_ready (rs := [8]) (by kernel_rfl) (by simp) ?_
                      refine AllReadyH.cons rfl (fun K hK => ?_) AllReadyH.nil
                      go_simp
                      refine (rhas_any Any1 _ lt z _ ((H1.out.below HW.out).below (Below.refl _ _).drew) (by omega)).mono ?_; rintro e w' ⟨rfl, rfl⟩
                      refine hK.out _ _ (hHeld) (fun hHeld => ?_)
                      clear hK K
                      try simp only [List.getElem_toArray, List.getElem_cons_zero, List.getElem_cons_succ, Act.put, List.setIfInBounds_toArray, List.set_cons_zero, List.set_cons_succ]
                      refine wpAnyH_done (by kernel_rfl) ?_ _
                      refine NoPanic.normal ?_
                      cases hh : hasB lt z
                      · have HHz := Lib.hid hh; clear hh
                        go_wp2_with fail
                        go_roundw
                        case rel => exact ⟨k + 1, by omega, by go_num, HBw.out.drew, Lib.hid fun j hj => by
                          by_cases e : j = k
                          · subst e; rw [HY.out]; exact HHz.out
                          · exact HH.out j (by omega)⟩
                        case measure => simp [intOf]; omega
                      · have HHz := Lib.hid hh; clear hh
                        go_wp2_with fail
                        go_ret
                        exact ⟨HF.out 5 (by rw [HCk.out, if_pos (List.any_eq_true.2 ⟨_, HM.out, HHz.out⟩)]), HW.out.drew⟩
                    · have hq2 : decide ((k : Int) < ln.length) = false := by simp; omega
                      have hany : (ln.any fun x => hasB lt x.2) = false := by
                        rw [List.any_eq_false]
                        intro y hy
                        obtain ⟨j, hj, rfl⟩ := List.getElem_of_mem hy
                        have := HH.out j (by omega)
                        rw [List.getD, List.getElem?_eq_getElem hj] at this
                        simpa using this
                      have HAny := Lib.hid hany; clear hany
                      go_wp2_with fail
                      go_ret
                      exact ⟨HF.out 0 (by rw [HCk.out, HAny.out]; simp), HW.out⟩
end
section
set_option maxRecDepth 100000
open Go.RowKit
attribute [local go_sem] toList_mk mk_size str_append
theorem infoF : (Tryz.prog.info? 79).map (fun i => (i.zero, i.size, i.bytes)) = some (some (.agg #[.string ⟨#[]⟩, .int .i64 0]), 2, 24) := by kernel_rfl
/-- a schema that is dealt -/
structure SchemaD (s : SchemaL) : Prop where
  fields : FieldsD s.fields
  some : 1 ≤ s.fields.length
  rules : RulesD s.rules
theorem SchemaD.check {s : SchemaL} (h : SchemaD s) : checkS s = 0 := h.fields.check h.some h.rules.check
def nil4 : Array Value := #[.slice none 0 0, .slice none 0 0, .slice none 0 0, .slice none 0 0]
/-- while a schema is dealt: the result's block, the schema's, the names', the row of the fields -/
structure SMid (D : Nat) (w : World) (y : Nat) (vt vn vs : Value) (r : RulesL) (vf : Value) (F : List F2) (wr : World) : Prop where
  z : wr.heap[w.heap.size]? = some (.cells nil4 33 (0, 0))
  s : wr.heap[y]? = some (.cells #[vf, vt, vn, vs] 33 (0, 0))
  n : RowB wr (y + 1) namesD
  own : wr.ownsRow (y + 2) 79 2 vf F.length (F.flatMap encF)
  rules : RulesAt wr (fun b => w.heap.size < b ∧ b < y) vt vn vs r
  fields : FieldsD F
  moved : Moved D w wr
  lt : w.heap.size < y
theorem own_same {w w' : World} {B e size n : Nat} {v : Value} {xs : List Value} (h : w.ownsRow B e size v n xs) (hs : ∀ g, B ≤ g → g < w.heap.size → w'.heap[g]? = w.heap[g]?) : w'.ownsRow B e size v n xs := by
  refine ⟨h.1, ?_⟩
  rcases h.2 with h0 | ⟨g, cap, cur, hv, hg, hh, rest⟩
  · exact .inl h0
  · exact .inr ⟨g, cap, cur, hv, hg, (hs g hg (lt_of_blk hh)).trans hh, rest⟩
theorem own_slice {w : World} {B e size n : Nat} {v : Value} {xs : List Value} (h : w.ownsRow B e size v n xs) : ∃ a c, v = .slice a n c := by
  rcases h.2 with ⟨rfl, rfl⟩ | ⟨g, cap, cur, hv, _⟩
  · exact ⟨none, 0, rfl⟩
  · exact ⟨_, _, hv⟩
theorem own_far {w : World} {B e size n : Nat} {v : Value} {xs : List Value} (h : w.ownsRow B e size v n xs) {k : Nat} (hk : k < B) : some k ≠ v.ownBlock := by
  rcases h.2 with ⟨rfl, rfl⟩ | ⟨g, cap, cur, rfl, hg, _⟩
  · simp [Value.ownBlock]
  · simp [Value.ownBlock]; omega
theorem SMid.gone {D : Nat} {w : World} {y : Nat} {vt vn vs : Value} {r : RulesL} {vf : Value} {F : List F2} {wr wd : World} (h : SMid D w y vt vn vs r vf F wr) (hD : D < w.heap.size) (m : Moved D wr wd) : SMid D w y vt vn vs r vf F wd := by
  have hy := h.lt
  have hb : ∀ b, b < wr.heap.size → w.heap.size ≤ b → wd.heap[b]? = wr.heap[b]? := fun b hb hS => m.grown.block b hb (by simp; omega)
  refine ⟨m.blk (by omega) h.z, m.blk (by omega) h.s, m.blk (by omega) h.n, own_same h.own fun g h1 h2 => hb g h2 (by omega), ?_, h.fields, h.moved.trans m, h.lt⟩
  exact ⟨h.rules.1.move m.size fun b hb' hS => ⟨hb b hb' (by have := hS.1; omega), hS⟩, h.rules.2.1.move m.size fun b hb' hS => ⟨hb b hb' (by have := hS.1; omega), hS⟩, h.rules.2.2.move m.size fun b hb' hS => ⟨hb b hb' (by have := hS.1; omega), hS⟩⟩
theorem SMid.step {D : Nat} {w : World} {y : Nat} {vt vn vs : Value} {r : RulesL} {vf v : Value} {F : List F2} {x : F2} {wr wA w2 : World} (h : SMid D w y vt vn vs r vf F wr) (hD : D < w.heap.size) (hb : Below wr.heap.size wr wA) (hg : wA.grownBy w2 vf.ownBlock)
    (hown : w2.ownsRow (y + 2) 79 2 v (F.length + 1) (F.flatMap encF ++ encF x)) (hx : FieldsD (F ++ [x])) : SMid D w y vt vn vs r v (F ++ [x]) (w2.setCell ⟨y, 0, none⟩ v) := by
  have hy := h.lt
  have zn : y + 1 < wr.heap.size := lt_of_blk h.n
  have hz := hb.size; have hz2 := hg.size
  have k1 : ∀ k, k < y + 2 → w2.heap[k]? = wr.heap[k]? := fun k hk => (hg.block k (by omega) (own_far h.own hk)).trans (hb.block k (by omega))
  have k2 : ∀ k, k < y + 2 → k ≠ y → (w2.setCell ⟨y, 0, none⟩ v).heap[k]? = wr.heap[k]? := fun k hk hne => (heap_setCell_other _ _ _ _ hne).trans (k1 k hk)
  have hs : (w2.setCell ⟨y, 0, none⟩ v).heap.size = w2.heap.size := by simp [World.setCell]
  refine ⟨(k2 _ (by omega) (by omega)).trans h.z, blk_set (i := 0) (v := v) ((k1 y (by omega)).trans h.s), (k2 _ (by omega) (by omega)).trans h.n, ?_, ?_, hx, ?_, hy⟩
  · rw [List.length_append, List.flatMap_append, show [x].flatMap encF = encF x by simp]
    exact own_same hown fun g h1 h2 => heap_setCell_other _ _ _ _ (by simp; omega)
  · have mv : ∀ b, b < wr.heap.size → (w.heap.size < b ∧ b < y) → (w2.setCell ⟨y, 0, none⟩ v).heap[b]? = wr.heap[b]? ∧ (w.heap.size < b ∧ b < y) := fun b _ hS => ⟨k2 b (by omega) (by omega), hS⟩
    exact ⟨h.rules.1.move (by omega) mv, h.rules.2.1.move (by omega) mv, h.rules.2.2.move (by omega) mv⟩
  · have m := h.moved
    refine ⟨⟨hg.os.trans (hb.os.trans m.grown.os), hg.tape.trans (hb.tape.trans m.grown.tape), hg.output.trans (hb.output.trans m.grown.output), by have := m.size; omega, fun k hk hr => ?_⟩, m.deck.same fun k hk => k2 k (by omega) (by omega), m.lt⟩
    exact (k2 k (by omega) (by omega)).trans (m.grown.block k hk hr)
def SchemaPost (D : Nat) (w : World) (e : Ending) (w' : World) : Prop := ∃ vf vt vn vs s, e = .returned (.agg #[vf, vt, vn, vs]) ∧ SchemaAt w' (fun b => w.heap.size ≤ b) vf vt vn vs s ∧ SchemaD s ∧ Moved D w w'
end
section
set_option maxRecDepth 100000
open Go.RowKit
attribute [local go_sem] toList_mk mk_size
set_option maxHeartbeats 4000000 in
theorem rnorm_yes (S : Nat → Prop) (vt vn vs : Value) (r : RulesL) (s : ByteArray) (w : World) (h : RulesAt w S vt vn vs r) (hc : checkR r = 0) (hv : foldV s.data.toList = true) :
    Calls Tryz.prog 132 #[.agg #[vt, vn, vs], .string s] w fun e w' => e = .returned (pairV (nameN r s.data.toList)) ∧ Below w.heap.size w w' := by
  have hs : s.size ≤ 64 := by
    have := foldV_len hv
    have h2 : s.data.toList.length = s.size := by simp
    omega
  obtain ⟨⟨k1, k2, k3⟩, g1, g2, g3, g4⟩ := check_zero hc
  have G2 := Lib.hid g2
  have HR := Lib.hid h.any
  have HC := Lib.hid hc; have HV := Lib.hid hv
  clear h hc hv g1 g2 g3 g4
  have hfin : nameN r s.data.toList = (if 6 < (nameToks r (toks (foldL s.data.toList))).length ∨ 64 < (joinL (nameToks r (toks (foldL s.data.toList)))).length then ([], 1) else (joinL (nameToks r (toks (foldL s.data.toList))), 0)) := by
    unfold nameN; rw [if_pos HC.out, if_pos HV.out]
  have HF := Lib.hid hfin; clear hfin
  go_enter Tryz.func132, Tryz.ntmps132
  go_wp2_with fail
  refine (rncheck_any Any1 vt vn vs r _ (HR.out.below ((Below.refl _ _).alloc (Nat.le_refl _) _))).mono ?_
  rw [HC.out]
  rintro e w1 ⟨rfl, hb1⟩
  have X1 : w1.heap[w.heap.size]? = some (.cells #[vt, vn, vs] 31 (0, 0)) := blk_below hb1 (by simp) (blk_new rfl)
  have HX1 := Lib.hid X1
  have HB1 := Lib.hid (((Below.refl w.heap.size w).alloc (Nat.le_refl _) _).trans (hb1.mono (by simp)))
  clear X1 hb1
  go_wp2_with fail
  refine (rfold_yes s _ HV.out).mono ?_
  rintro e w2 ⟨rfl, hb2⟩
  have HX2 := Lib.hid (blk_below hb2 (lt_of_blk HX1.out) HX1.out)
  have HB2 := Lib.hid (HB1.out.trans (hb2.mono HB1.out.size))
  clear hb2 HX1 HB1
  go_wp2_with fail
  have hfl : (foldL s.data.toList).length ≤ 64 := by
    have := fold_len s.data.toList
    have h2 : s.data.toList.length = s.size := by simp
    omega
  obtain ⟨fl, hfl'⟩ : ∃ fl, foldL s.data.toList = fl := ⟨_, rfl⟩
  have hasc : ascii fl := hfl' ▸ fold_ascii _
  have HA := Lib.hid hasc
  rw [hfl'] at hfl HF ⊢
  clear hasc hfl'
  refine (rtokens_any ⟨fl.toArray⟩ _ (by rw [mk_size]; omega)).mono ?_
  rw [show (⟨fl.toArray⟩ : ByteArray).data.toList = fl by simp]
  rintro e w4 ⟨v4, rfl, ho⟩
  obtain ⟨aT, cT, rfl⟩ := own_slice ho.1
  have hb4 := ho.2
  have HX4 := Lib.hid (blk_below hb4 (lt_of_blk HX2.out) HX2.out)
  have HB4 := Lib.hid (HB2.out.trans (hb4.mono HB2.out.size))
  have hV := Vec.owns (S := Any1) (k := 1) (enc := encS) (fun _ => rfl) ho.1 (fun _ _ _ => trivial)
  have htl : ∀ t ∈ toks fl, t.length ≤ 64 := fun t ht => by have := toks_le fl [] t ht; simp at this; omega
  have htn : (toks fl).length ≤ 65 := by have := (toksA_len fl []).2.1; unfold toks; omega
  obtain ⟨T, hT⟩ : ∃ T, toks fl = T := ⟨_, rfl⟩
  rw [hT] at hV htl htn HF ⊢
  have HV4 := Lib.hid hV; have HTL := Lib.hid htl
  clear hb4 HX2 HB2 ho hV hT htl
  go_wp2_with fail
  go_loopw [10, 11] (fun v i wr => ∃ k : Nat, k ≤ T.length ∧ i = .int .i64 k ∧ OwnAt w4 v (nameToks r (T.take k)) wr) (fun _ i _ => T.length - (intOf i).toNat)
  case atStart => exact ⟨0, by omega, rfl, OwnAt.start w4⟩
  case round =>
    obtain ⟨k, hk, rfl, ho⟩ := hrel
    by_cases hlt : k < T.length
    · have hq : decide ((k : Int) < T.length) = true := by simp; omega
      have hi : (k : Int) < (T.length : Int) := by omega
      obtain ⟨b, off, rfl, _, hb, hcx⟩ := vec_cell1 HV4.out (by omega)
      have htk : T.take (k + 1) = T.take k ++ [T.getD k []] := by
        rw [List.take_succ_eq_append_getElem hlt, List.getD, List.getElem?_eq_getElem hlt]; rfl
      have hxl : (T.getD k []).length ≤ 64 := TL_get HTL.out k hlt
      have hcx' := hcx k hlt
      obtain ⟨x, hx⟩ : ∃ x, T.getD k [] = x := ⟨_, rfl⟩
      rw [hx] at htk hxl hcx'
      have c1 : wr.cell? ⟨b, off + k, none⟩ = some (strV x) := (ho.2.cell (p := ⟨b, off + k, none⟩) hb).trans hcx'
      have HT := Lib.hid htk; have HO := Lib.hid ho
      have hnl := nameToks_len r (T.take k)
      have hnl2 : (nameToks r (T.take k)).length < 1099511627776 := by have := List.length_take_le k T; omega
      clear hx htk hcx hcx' ho hnl
      go_wp2_with fail
      refine (rletters_any (mkS x) _ (by rw [show (mkS x).size = x.length from mk_size x]; omega)).mono ?_
      rw [show (mkS x).data.toList = x by simp [mkS]]
      rintro e w' ⟨rfl, rfl⟩
      have HO5 := HO
      have hX5 := blk_below (HO5.out.2) (lt_of_blk HX4.out) HX4.out
      clear HO
      have HNT := Lib.hid (show normTok r x = if (lettersL x).isEmpty || hasB r.titles (lettersL x) then [] else [canonL r.nicks (lettersL x)] from rfl)
      have hyl := letters_len x
      obtain ⟨y, hy⟩ : ∃ y, lettersL x = y := ⟨_, rfl⟩
      rw [hy] at HNT hyl ⊢
      clear hy
      have HX5 := Lib.hid hX5
      obtain ⟨p0, p1, p2⟩ := cells3 hX5
      clear hX5
      by_cases hye : y = []
      · have e1 : (y == []) = true := by simpa using hye
        have e2 : y.isEmpty = true := by simpa using hye
        have HN := Lib.hid (show normTok r x = [] by rw [HNT.out, e2]; rfl)
        clear hye HNT
        go_wp2_with fail
        go_roundw
        case rel => exact ⟨k + 1, by omega, by go_num, by rw [HT.out, nameToks_snoc, HN.out, List.append_nil]; exact HO5.out⟩
        case measure => simp [intOf]; omega
      · have e1 : (y == []) = false := by simpa using hye
        have e2 : y.isEmpty = false := by simpa using hye
        rw [e2, Bool.false_or] at HNT
        clear hye
        go_wp2_with fail
        refine (rdropped_any Any1 vt vn vs r.titles y _ (HR.out.1.below (HB4.out.trans (HO5.out.2.mono HB4.out.size))) (by omega)).mono ?_
        rintro e w6 ⟨rfl, hb6⟩
        have HO6 := Lib.hid (HO5.out.below hb6)
        have hX6 := blk_below hb6 (lt_of_blk HX5.out) HX5.out
        clear p0 p1 p2 HX5 hb6 HO5
        obtain ⟨p0, p1, p2⟩ := cells3 hX6
        have HX6 := Lib.hid hX6; clear hX6
        cases hd : hasB r.titles y
        · have HN := Lib.hid (show normTok r x = [canonL r.nicks y] by rw [HNT.out, hd]; rfl)
          clear hd HNT
          go_wp2_with fail
          refine (rcanonical_any Any1 vt vn vs r.nicks y _ (HR.out.2.1.below (HB4.out.trans (HO6.out.2.mono HB4.out.size))) (by omega)).mono ?_
          rintro e w7 ⟨rfl, hb7⟩
          have HO7 := Lib.hid (HO6.out.below hb7)
          clear p0 p1 p2 HX6 hb7 HO6
          obtain ⟨z, hz⟩ : ∃ z, canonL r.nicks y = z := ⟨_, rfl⟩
          rw [hz] at HN ⊢
          clear hz
          have hbz : w4.heap.size ≤ w7.heap.size := HO7.out.2.size
          go_wp2_with (at_builtin; refine wpList_append_new rfl _ _ 28 rfl w4.heap.size 9 1 16 (.string ⟨#[]⟩) Tryz.underlying28 infoS rfl (by decide) (by decide) _ _ _ rfl HO7.out.1 #[strV z] 1 rfl rfl (by simp [Value.oneCell']) hnl2 hbz ?_; intro v2 w8 ho8 hw8)
          go_roundw
          case rel => exact ⟨k + 1, by omega, by go_num, by rw [HT.out, nameToks_snoc, HN.out]; exact ⟨by rw [List.length_append, flat_snoc]; exact ho8, hw8 _ HO7.out.2⟩⟩
          case measure => simp [intOf]; omega
        · have HN := Lib.hid (show normTok r x = [] by rw [HNT.out, hd]; rfl)
          clear hd HNT
          go_wp2_with fail
          go_roundw
          case rel => exact ⟨k + 1, by omega, by go_num, by rw [HT.out, nameToks_snoc, HN.out, List.append_nil]; exact HO6.out⟩
          case measure => simp [intOf]; omega
    · have hq : decide ((k : Int) < T.length) = false := by simp; omega
      rw [List.take_of_length_le (by omega)] at ho
      have HV5 := Lib.hid (Vec.owns (S := Any1) (k := 1) (enc := encS) (fun _ => rfl) ho.1 (fun _ _ _ => trivial))
      have HW := Lib.hid (HB4.out.trans (ho.2.mono HB4.out.size))
      have hnl := nameToks_len r T
      have hjl := join_le (nameToks r T) (nameToks_le G2.out HTL.out)
      clear ho
      obtain ⟨N, hN⟩ : ∃ N, nameToks r T = N := ⟨_, rfl⟩
      rw [hN] at HV5 hnl hjl HF
      clear hN
      have hjb : (joinL N).length ≤ 1000000 := by
        have : N.length * 65 ≤ 65 * 65 := Nat.mul_le_mul_right 65 (by omega)
        omega
      clear hjl
      obtain ⟨av, cv, rfl⟩ := HV5.out.slice
      go_wp2_with fail
      refine (rjoin_any Any1 _ N _ HV5.out (by omega) (by omega)).mono ?_
      rintro e w' ⟨rfl, rfl⟩
      have HW9 := HW
      obtain ⟨J, hJ⟩ : ∃ J, joinL N = J := ⟨_, rfl⟩
      rw [hJ] at HF hjb ⊢
      clear hJ
      by_cases g1 : 6 < N.length
      · have d1 : decide ((6 : Int) < N.length) = true := by simp; omega
        rw [if_pos (.inl g1)] at HF
        go_wp2_with fail
        go_ret2
        exact ⟨by rw [HF.out]; rfl, HW9.out⟩
      · have d1 : decide ((6 : Int) < N.length) = false := by simp; omega
        by_cases g2 : 64 < J.length
        · have d2 : decide ((64 : Int) < J.length) = true := by simp; omega
          rw [if_pos (.inr g2)] at HF
          go_wp2_with fail
          go_ret2
          exact ⟨by rw [HF.out]; rfl, HW9.out⟩
        · have d2 : decide ((64 : Int) < J.length) = false := by simp; omega
          rw [if_neg (by omega)] at HF
          go_wp2_with fail
          go_ret2
          exact ⟨by rw [HF.out]; rfl, HW9.out⟩
set_option maxHeartbeats 1000000 in
theorem rnorm_no (S : Nat → Prop) (vt vn vs : Value) (r : RulesL) (s : ByteArray) (w : World) (h : RulesAt w S vt vn vs r) (hs : s.size ≤ 9223372036854775000) (hc : checkR r = 0) (hv : foldV s.data.toList = false) :
    Calls Tryz.prog 132 #[.agg #[vt, vn, vs], .string s] w fun e w' => e = .returned (pairV (nameN r s.data.toList)) ∧ Below w.heap.size w w' := by
  have HR := Lib.hid h.any
  have HC := Lib.hid hc; have HV := Lib.hid hv
  clear h hc hv
  have HF := Lib.hid (show nameN r s.data.toList = ([], 3) by unfold nameN; rw [if_pos HC.out, if_neg (by rw [HV.out]; simp)])
  go_enter Tryz.func132, Tryz.ntmps132
  go_wp2_with fail
  refine (rncheck_any Any1 vt vn vs r _ (HR.out.below ((Below.refl _ _).alloc (Nat.le_refl _) _))).mono ?_
  rw [HC.out]
  rintro e w1 ⟨rfl, hb1⟩
  have HB1 := Lib.hid (((Below.refl w.heap.size w).alloc (Nat.le_refl _) _).trans (hb1.mono (by simp)))
  clear hb1
  go_wp2_with fail
  refine (rfold_no s _ hs HV.out).mono ?_
  rintro e w2 ⟨rfl, hb2⟩
  have HB2 := Lib.hid (HB1.out.trans (hb2.mono HB1.out.size))
  clear hb2 HB1
  go_wp2_with fail
  go_ret2
  exact ⟨by rw [HF.out]; rfl, HB2.out⟩
set_option maxHeartbeats 1000000 in
theorem rnorm_bad (S : Nat → Prop) (vt vn vs : Value) (r : RulesL) (s : ByteArray) (w : World) (h : RulesAt w S vt vn vs r) (hc : checkR r ≠ 0) :
    Calls Tryz.prog 132 #[.agg #[vt, vn, vs], .string s] w fun e w' => e = .returned (pairV (nameN r s.data.toList)) ∧ Below w.heap.size w w' := by
  have HR := Lib.hid h.any
  have HF := Lib.hid (show nameN r s.data.toList = ([], checkR r) by unfold nameN; rw [if_neg hc])
  have hne : (checkR r != 0) = true := by simpa using hc
  clear h hc
  go_enter Tryz.func132, Tryz.ntmps132
  go_wp2_with fail
  refine (rncheck_any Any1 vt vn vs r _ (HR.out.below ((Below.refl _ _).alloc (Nat.le_refl _) _))).mono ?_
  obtain ⟨c, hcc⟩ : ∃ c, checkR r = c := ⟨_, rfl⟩
  rw [hcc] at hne HF ⊢
  clear hcc
  rintro e w1 ⟨rfl, hb1⟩
  have HB1 := Lib.hid (((Below.refl w.heap.size w).alloc (Nat.le_refl _) _).trans (hb1.mono (by simp)))
  clear hb1
  go_wp2_with fail
  go_ret2
  exact ⟨by rw [HF.out]; rfl, HB1.out⟩
theorem rnorm_any (S : Nat → Prop) (vt vn vs : Value) (r : RulesL) (s : ByteArray) (w : World) (h : RulesAt w S vt vn vs r) (hs : s.size ≤ 9223372036854775000) :
    Calls Tryz.prog 132 #[.agg #[vt, vn, vs], .string s] w fun e w' => e = .returned (pairV (nameN r s.data.toList)) ∧ Below w.heap.size w w' := by
  by_cases hc : checkR r = 0
  · cases hv : foldV s.data.toList with
    | true => exact rnorm_yes S vt vn vs r s w h hc hv
    | false => exact rnorm_no S vt vn vs r s w h hs hc hv
  · exact rnorm_bad S vt vn vs r s w h hc
set_option maxHeartbeats 1000000 in
theorem rnormal_any (S : Nat → Prop) (vt vn vs : Value) (r : RulesL) (s : ByteArray) (w : World) (h : RulesAt w S vt vn vs r) (hs : s.size ≤ 9223372036854775000) :
    Calls Tryz.prog 126 #[.agg #[vt, vn, vs], .string s] w fun e w' => e = .returned (.bool (isOwn (nameN r s.data.toList) s.data.toList)) ∧ Below w.heap.size w w' := by
  have HR := Lib.hid h.any; clear h
  have HS := Lib.hid (Lib.toList_data s)
  go_enter Tryz.func126, Tryz.ntmps126
  go_wp2_with fail
  refine (rnorm_any Any1 vt vn vs r s _ (HR.out.below ((Below.refl _ _).alloc (Nat.le_refl _) _)) hs).mono ?_
  obtain ⟨p, hp⟩ : ∃ p, nameN r s.data.toList = p := ⟨_, rfl⟩
  rw [hp]
  have HP := Lib.hid hp; clear hp
  obtain ⟨pl, pe⟩ := p
  unfold pairV
  rintro e w1 ⟨rfl, hb1⟩
  have HB1 := Lib.hid (((Below.refl w.heap.size w).alloc (Nat.le_refl _) _).trans (hb1.mono (by simp)))
  clear hb1
  cases he : (pe == 0)
  all_goals
    go_wp2_with fail
    go_ret
    refine ⟨ret_bool ?_, HB1.out⟩
    rw [HP.out]
    simp [isOwn, he, HS.out]
end
end Go.Proofs.YtoeplomdcannlaaGreatDoor
