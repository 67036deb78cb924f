/- Parts of one proof: MakeZZ, DeckRec, MakeB, Drawn, DeckRecB, MakeM, BytesT, HexPlain, HexBits, PhonB, HexA, Shelf3, Split, CutAny, NumPlain, EbVars, JoinC, LinePlain, JoinT, EncH, BackPlain. -/
import Derived.Test.YtoeplomdcannlaaGreatDoorPartEb7
import Derived.Deep.OwnRows
import Derived.Laws.IdiomStrings
import Derived.MapKept
import Derived.WideMake
import Derived.Shelf.Strconv.Atoi
import Derived.Shelf.Strconv.AtoiErrFast
import Derived.Shelf.Strconv.ParseIntEmpty
import Derived.Shelf.Strconv.AtoiFail
import Derived.Shelf.Strconv.Clone
import Derived.Shelf.Strconv.SyntaxError
import Derived.Shelf.LaysC
import Derived.Shelf.Strconv.ToError
import Derived.Shelf.Strconv.Lower
import Derived.Shelf.Strconv.ParseUint10
import Derived.Shelf.Strconv.ParseUint10Empty
import Derived.Shelf.Strconv.ParseUint10Any
import Derived.Shelf.Strconv.ParseInt10
import Derived.Shelf.Strconv.AtoiLong
import Derived.Shelf.Strconv.AtoiInnerAll
import Derived.Shelf.Strconv.RangeError
import Derived.Shelf.Strconv.ToErrorRange
import Derived.Shelf.Strconv.AtoiAll
import Derived.Shelf.Strings.LastIndex
import Derived.Shelf.Strings.Prefix
import Derived.Shelf.Strings.Repeat
import Derived.Lib.Split
import Derived.Lib.Atoi
import Derived.Lib.AtoiTie
import Derived.Lib.LaidTab
import Derived.Lib.AtoiErrMem
set_option linter.unusedSimpArgs false
set_option linter.unusedVariables false
namespace Go.Proofs.YtoeplomdcannlaaGreatDoor
section
set_option maxRecDepth 100000
open Go.RowKit
attribute [local go_sem] toList_mk mk_size str_append
def kindsD : List Int := [1, 1, 2, 4, 3]
theorem kindsD_bd (k : Nat) (hk : k < 5) : 1 ≤ kindsD.getD k 0 ∧ kindsD.getD k 0 ≤ 4 := by
  have : ∀ j : Fin 5, 1 ≤ kindsD.getD j 0 ∧ kindsD.getD j 0 ≤ 4 := by decide
  exact this ⟨k, hk⟩
theorem kinds_cell {w : World} {b : Nat} (h : w.heap[b]? = some (.cells (kindsD.map (Value.int .i64)).toArray 3 (0, 0))) (k : Nat) (hk : k < 5) : w.cell? ⟨b, k, none⟩ = some (.int .i64 (kindsD.getD k 0)) := by
  rw [cell_of_row _ _ _ _ _ _ h, List.getElem?_toArray, List.getElem?_map]
  have : k < kindsD.length := hk
  rw [List.getD, List.getElem?_eq_getElem this]; rfl
set_option maxHeartbeats 8000000 in
theorem schema_deal (D : Nat) (w : World) (h : DeckAt w D) :
    Calls Tryz.prog 11 #[.pointer (some ⟨D, 0, none⟩)] w (SchemaPost D w) := by
  have zD := h.lt
  have M0 := Lib.hid (Moved.start h); clear h
  go_enter Tryz.func11, Tryz.ntmps11
  go_wp2_with fail
  refine (rules_deal D _ (M0.out.alloc _).deck).mono ?_
  rintro e w1 ⟨vt, vn, vs, r, rfl, hr, hd, mv⟩
  obtain ⟨at', ct, rfl⟩ := hr.1.slice
  obtain ⟨an, cn, rfl⟩ := hr.2.1.slice
  obtain ⟨as', cs, rfl⟩ := hr.2.2.slice
  have zw : w.heap.size < w1.heap.size := by have := mv.size; simp at this; omega
  have X1 := Lib.hid (show w1.heap[w.heap.size]? = some (.cells nil4 33 (0, 0)) from mv.blk (by omega) (blk_new rfl))
  have M1 := Lib.hid ((M0.out.alloc _).trans mv)
  have HR := Lib.hid hr; have HRD := Lib.hid hd
  clear hr hd mv
  go_wp2_with fail
  have K0 := Lib.hid (show SMid D w w1.heap.size (.slice at' r.titles.length ct) (.slice an r.nicks.length cn) (.slice as' r.streets.length cs) r (.slice none 0 0) [] ((w1.alloc (.cells #[.slice none 0 0, .slice at' r.titles.length ct, .slice an r.nicks.length cn, .slice as' r.streets.length cs] 33)).alloc (.cells (namesD.flatMap encS).toArray 9)) from
    ⟨blk_old (blk_old X1.out), blk_old (blk_new rfl), blk_new (by simp), ⟨rfl, .inl ⟨rfl, rfl⟩⟩, by
      have hb : Below w1.heap.size w1 ((w1.alloc (.cells #[.slice none 0 0, .slice at' r.titles.length ct, .slice an r.nicks.length cn, .slice as' r.streets.length cs] 33)).alloc (.cells (namesD.flatMap encS).toArray 9)) := ((Below.refl _ _).alloc (Nat.le_refl _) _).alloc (by simp) _
      have mvv : ∀ b, b < w1.heap.size → (w.alloc (.cells nil4 33)).heap.size ≤ b → _ ∧ (w.heap.size < b ∧ b < w1.heap.size) := fun b h1 h2 => ⟨hb.block b h1, by simp at h2; omega, h1⟩
      exact ⟨HR.out.1.move hb.size mvv, HR.out.2.1.move hb.size mvv, HR.out.2.2.move hb.size mvv⟩, FieldsD.nil, (M1.out.alloc _).alloc _, zw⟩)
  refine (next_any D _ 4 K0.out.moved.deck (by omega) (by omega)).mono ?_
  rintro e w2 ⟨q, rfl, q0, q1, mv⟩
  obtain ⟨q, rfl⟩ := Int.eq_ofNat_of_zero_le q0
  have K1 := Lib.hid (K0.out.gone zD mv)
  clear mv K0 X1 M1 HR M0
  go_wp2_with fail
  go_loopw [6] (fun i wr => ∃ (k : Nat) (F : List F2) (vf : Value), i = .int .i64 k ∧ k ≤ 1 + q ∧ F.length = k ∧ SMid D w w1.heap.size (.slice at' r.titles.length ct) (.slice an r.nicks.length cn) (.slice as' r.streets.length cs) r vf F wr) (fun i _ => 1 + q - (intOf i).toNat)
  case atStart => exact ⟨0, [], _, rfl, by omega, rfl, K1.out⟩
  case round =>
    obtain ⟨k, F, vf, rfl, hk, hF, hm⟩ := hrel
    have HF := Lib.hid hF; have KM := Lib.hid hm
    clear hm hF K1
    by_cases hlt : k < 1 + q
    · have hq : decide ((k : Int) < 1 + q) = true := by simp; omega
      have hix : (k : Int) < 5 := by omega
      have hc : (wr.alloc (.cells #[.int .i64 1, .int .i64 1, .int .i64 2, .int .i64 4, .int .i64 3] 3)).cell? ⟨wr.heap.size, k, none⟩ = _ := kinds_cell (w := wr.alloc (.cells (kindsD.map (Value.int .i64)).toArray 3)) (b := wr.heap.size) (blk_new rfl) k (by omega)
      obtain ⟨kb1, kb2⟩ := kindsD_bd k (by omega)
      obtain ⟨kd, hkd⟩ : ∃ kd, kindsD.getD k 0 = kd := ⟨_, rfl⟩
      rw [hkd] at hc kb1 kb2
      clear hkd
      go_wp2_with fail
      refine (one_any D _ 4 (KM.out.moved.alloc _).deck (by omega) (by omega)).mono ?_
      rintro e w3 ⟨u, rfl, mv⟩
      have KN := Lib.hid (KM.out.gone zD (((Moved.start KM.out.moved.deck).alloc _).trans mv))
      clear hc mv
      go_upto_if 25 with (fail)
      go_cut [7] (fun s7 wx => ∃ kd : Int, s7 = .int .i64 kd ∧ 1 ≤ kd ∧ kd ≤ 4 ∧ SMid D w w1.heap.size (.slice at' r.titles.length ct) (.slice an r.nicks.length cn) (.slice as' r.streets.length cs) r vf F wx)
      case first =>
        cases u
        · go_wp2_with fail
          go_meet
          exact ⟨kd, rfl, kb1, kb2, KN.out⟩
        · go_wp2_with fail
          refine (next_any D _ 4 KN.out.moved.deck (by omega) (by omega)).mono ?_
          rintro e w4 ⟨p, rfl, p0, p1, mv⟩
          have KO := Lib.hid (KN.out.gone zD mv)
          clear mv
          go_wp2_with fail
          go_meet
          exact ⟨1 + p, rfl, by omega, by omega, KO.out⟩
      case rest =>
        obtain ⟨kx, rfl, kx1, kx2, hm⟩ := hcut
        have KX := Lib.hid hm
        clear hm KM KN kb1 kb2
        obtain ⟨av, cv, hav⟩ := own_slice KX.out.own
        rw [HF.out] at hav
        subst hav
        have cY := (cells4 KX.out.s).1
        have cN := KX.out.n.cell k (by show k < 5; omega)
        have zY := lt_of_blk KX.out.n
        have zY0 : w1.heap.size < wc.heap.size := by omega
        obtain ⟨nm, hnm⟩ : ∃ nm, namesD.getD k [] = nm := ⟨_, rfl⟩
        rw [hnm] at cN
        have HNM := Lib.hid hnm; clear hnm
        go_wp2_with fail
        have hown := own_below KX.out.own (((Below.refl _ _).alloc (Nat.le_refl _) (.cells #[strV nm, .int .i64 kx] 79)).drew)
        have hnews : ∀ j u, [strV nm, Value.int .i64 kx][j]? = some u → ((wc.alloc (.cells #[strV nm, .int .i64 kx] 79)).drew).cell? ((⟨wc.heap.size, 0, none⟩ : Addr).add j) = some u := fun j u hu => by
          rw [add_plain, World.cell?_drew, cell_of_row _ _ _ _ _ _ (heap_alloc_new wc _), Nat.zero_add]; simpa using hu
        have hone : ∀ u ∈ [strV nm, Value.int .i64 kx], u.oneCell' = true := by intro u hu; simp at hu; rcases hu with rfl | rfl <;> rfl
        obtain ⟨i0, hi, hz0, hz1, hz2⟩ := info_parts infoF
        have hbA := ((Below.refl _ wc).alloc (Nat.le_refl _) (.cells #[strV nm, .int .i64 kx] 79)).drew
        have HBA := Lib.hid hbA; have HOwn := Lib.hid hown; have HNews := Lib.hid hnews; have HOne := Lib.hid hone; have HI := Lib.hid hi; have HZ0 := Lib.hid hz0; have HZ1 := Lib.hid hz1; have HZ2 := Lib.hid hz2
        have fY := (frozen_of_row _ _ _ _ _ KX.out.s : wc.frozen? ⟨w1.heap.size, 0, none⟩ = false)
        clear hbA hown hnews hone hi hz0 hz1 hz2
        rw [HF.out] at HOwn
        go_region_law (((refine step_append_lies _ rfl (.tmp 30) (.tmp 37) 27 (by rfl) (w1.heap.size + 2) 79 i0 (.agg #[.string ⟨#[]⟩, .int .i64 0]) 2 24 Tryz.underlying27 HI.out HZ0.out HZ1.out HZ2.out rfl (by decide) (.slice av k cv) k (F.flatMap encF) (by rfl) HOwn.out ⟨wc.heap.size, 0, none⟩ 1 1 [strV nm, .int .i64 kx] (by rfl) rfl HNews.out HOne.out (by omega) (by unfold maxLen; omega) (by omega) (by simp; omega) (wc.heap.size + 1) (by simp) ?_); intro g cap w5 hown5 hg5 hat5 hlt5; have cY5 := (hg5.cell_far ⟨w1.heap.size, 0, none⟩ (by simp; omega) (own_far HOwn.out (by show w1.heap.size < _; omega))).trans ((HBA.out.cell (p := ⟨w1.heap.size, 0, none⟩) (by show w1.heap.size < _; omega)).trans cY); have fY5 := (hg5.frozen_far ⟨w1.heap.size, 0, none⟩ (by simp; omega) (own_far HOwn.out (by show w1.heap.size < _; omega))).trans ((HBA.out.frozen (p := ⟨w1.heap.size, 0, none⟩) (by show w1.heap.size < _; omega)).trans fY)))
        all_goals
          have hfd := KX.out.fields.snoc (by rw [HF.out]; omega) kx1 kx2
          rw [HF.out, HNM.out] at hfd
          have hown6 := hown5
          rw [show F.flatMap encF ++ [strV nm, .int .i64 kx] = F.flatMap encF ++ encF (nm, kx) from rfl, ← HF.out] at hown6
          have KS := Lib.hid (KX.out.step (x := (nm, kx)) zD HBA.out hg5 hown6 hfd)
          rw [HF.out] at KS
          clear hfd hown6 hown5 hg5 hat5 cY5 fY5
          go_wp2_with fail
          go_roundw
          case rel => exact ⟨k + 1, F ++ [(nm, kx)], _, by go_num, by omega, by rw [List.length_append, HF.out]; rfl, KS.out⟩
          case measure => simp [intOf]; omega
    · have hq : decide ((k : Int) < 1 + q) = false := by simp; omega
      obtain ⟨av, cv, hav⟩ := own_slice KM.out.own
      subst hav
      have HZ := Lib.hid KM.out.z
      have HM := Lib.hid KM.out.moved
      have HR := Lib.hid KM.out.rules
      have HO := Lib.hid KM.out.own
      have HFd := Lib.hid KM.out.fields
      obtain ⟨c0, c1, c2, c3⟩ := cells4 KM.out.s
      obtain ⟨d0, d1, d2, d3⟩ := cells4 KM.out.z
      have g0 := (frozen_of_row _ _ _ _ _ KM.out.z : wr.frozen? ⟨w.heap.size, 0, none⟩ = false)
      have g1 := (frozen_of_row _ _ _ _ _ KM.out.z : wr.frozen? ⟨w.heap.size, 1, none⟩ = false)
      have g2 := (frozen_of_row _ _ _ _ _ KM.out.z : wr.frozen? ⟨w.heap.size, 2, none⟩ = false)
      have g3 := (frozen_of_row _ _ _ _ _ KM.out.z : wr.frozen? ⟨w.heap.size, 3, none⟩ = false)
      have z0 := lt_of_blk KM.out.z
      have z1 := lt_of_blk KM.out.s
      clear KM
      go_wp2_with fail
      have hz := (blk_set (i := 3) (v := (.slice as' r.streets.length cs)) (blk_set (i := 2) (v := (.slice an r.nicks.length cn)) (blk_set (i := 1) (v := (.slice at' r.titles.length ct)) (blk_set (i := 0) (v := (.slice av F.length cv)) HZ.out))))
      have hm := ((((HM.out.set (a := ⟨w.heap.size, 0, none⟩) (Nat.le_refl _) (.slice av F.length cv)).set (a := ⟨w.heap.size, 1, none⟩) (Nat.le_refl _) (.slice at' r.titles.length ct)).set (a := ⟨w.heap.size, 2, none⟩) (Nat.le_refl _) (.slice an r.nicks.length cn)).set (a := ⟨w.heap.size, 3, none⟩) (Nat.le_refl _) (.slice as' r.streets.length cs))
      have hv := (((((Vec.owns (k := 2) (enc := encF) (S := fun b => w.heap.size < b) (fun _ => rfl) HO.out (fun b h1 _ => by omega)).set1 (a := ⟨w.heap.size, 0, none⟩) (fun b h => Nat.ne_of_gt h) (.slice av F.length cv)).set1 (a := ⟨w.heap.size, 1, none⟩) (fun b h => Nat.ne_of_gt h) (.slice at' r.titles.length ct)).set1 (a := ⟨w.heap.size, 2, none⟩) (fun b h => Nat.ne_of_gt h) (.slice an r.nicks.length cn)).set1 (a := ⟨w.heap.size, 3, none⟩) (fun b h => Nat.ne_of_gt h) (.slice as' r.streets.length cs))
      have ht := (((((HR.out.1.weaken (S' := fun b => w.heap.size < b) fun b h => h.1).set1 (a := ⟨w.heap.size, 0, none⟩) (fun b h => Nat.ne_of_gt h) (.slice av F.length cv)).set1 (a := ⟨w.heap.size, 1, none⟩) (fun b h => Nat.ne_of_gt h) (.slice at' r.titles.length ct)).set1 (a := ⟨w.heap.size, 2, none⟩) (fun b h => Nat.ne_of_gt h) (.slice an r.nicks.length cn)).set1 (a := ⟨w.heap.size, 3, none⟩) (fun b h => Nat.ne_of_gt h) (.slice as' r.streets.length cs))
      have hn := (((((HR.out.2.1.weaken (S' := fun b => w.heap.size < b) fun b h => h.1).set1 (a := ⟨w.heap.size, 0, none⟩) (fun b h => Nat.ne_of_gt h) (.slice av F.length cv)).set1 (a := ⟨w.heap.size, 1, none⟩) (fun b h => Nat.ne_of_gt h) (.slice at' r.titles.length ct)).set1 (a := ⟨w.heap.size, 2, none⟩) (fun b h => Nat.ne_of_gt h) (.slice an r.nicks.length cn)).set1 (a := ⟨w.heap.size, 3, none⟩) (fun b h => Nat.ne_of_gt h) (.slice as' r.streets.length cs))
      have hs := (((((HR.out.2.2.weaken (S' := fun b => w.heap.size < b) fun b h => h.1).set1 (a := ⟨w.heap.size, 0, none⟩) (fun b h => Nat.ne_of_gt h) (.slice av F.length cv)).set1 (a := ⟨w.heap.size, 1, none⟩) (fun b h => Nat.ne_of_gt h) (.slice at' r.titles.length ct)).set1 (a := ⟨w.heap.size, 2, none⟩) (fun b h => Nat.ne_of_gt h) (.slice an r.nicks.length cn)).set1 (a := ⟨w.heap.size, 3, none⟩) (fun b h => Nat.ne_of_gt h) (.slice as' r.streets.length cs))
      have hw : ∀ b, w.heap.size < b → w.heap.size ≤ b := fun b h => Nat.le_of_lt h
      have hF1 : 1 ≤ F.length := by have := HF.out; omega
      exact bodyPost_row1 rfl rfl hz Tryz.underlying33 rfl (by kernel_rfl) ⟨_, _, _, _, ⟨F, r⟩, rfl, ⟨hv.weaken hw, ht.weaken hw, hn.weaken hw, hs.weaken hw⟩, ⟨HFd.out, hF1, HRD.out⟩, hm⟩
end
section
set_option maxRecDepth 100000
open Go.RowKit Cal
attribute [local go_sem] toList_mk mk_size str_append
/-- a record in memory: its three cells -/
def RecVal (w : World) (S : Nat → Prop) (v : Value) (r : RecL) : Prop := ∃ s, v = .agg #[.int .i64 r.id, .int .i64 r.ver, s] ∧ Vec w S 1 encS s r.vals
def MakePost (p : RecL × Int) (w : World) (e : Ending) (w' : World) : Prop := ∃ v, e = .returned (.tuple #[v, .int .i64 p.2]) ∧ RecVal w' (fun b => w.heap.size ≤ b) v p.1 ∧ Below w.heap.size w w'
/-- .. of raw values as many as fields, right numbers, a valid schema -/
theorem makeN_in {s : SchemaL} {id ver : Int} {raws : List (List UInt8)} (h0 : checkS s = 0) (h1 : raws.length = s.fields.length) (h2 : numberedB id ver = true) : makeN s id ver raws = if (makeA s 0 [] raws).2 = 0 then (⟨id, ver, (makeA s 0 [] raws).1⟩, 0) else (noRec, (makeA s 0 [] raws).2) := by
  unfold makeN; rw [if_pos h0, if_pos h1, if_pos h2]
/-- where ref13.Make stands: the schema's box, the result's, the record's, its values -/
structure MkAt (w : World) (rb : Nat) (vf vt vn vs : Value) (id ver : Int) (v : Value) (C : List (List UInt8)) (wr : World) : Prop where
  s : wr.heap[w.heap.size]? = some (.cells #[vf, vt, vn, vs] 33 (0, 0))
  z : wr.heap[w.heap.size + 1]? = some (.cells #[.int .i64 0, .int .i64 0, .slice none 0 0] 48 (0, 0))
  r : wr.heap[rb]? = some (.cells #[.int .i64 id, .int .i64 ver, v] 48 (0, 0))
  own : wr.ownsRow (rb + 1) 9 1 v C.length (C.flatMap encS)
  b : Below w.heap.size w wr
  lt : w.heap.size + 1 < rb
  lt2 : rb < wr.heap.size
theorem MkAt.below {w : World} {rb : Nat} {vf vt vn vs : Value} {id ver : Int} {v : Value} {C : List (List UInt8)} {wr wx : World} (h : MkAt w rb vf vt vn vs id ver v C wr) (hb : Below wr.heap.size wr wx) : MkAt w rb vf vt vn vs id ver v C wx :=
  ⟨blk_below hb (lt_of_blk h.s) h.s, blk_below hb (lt_of_blk h.z) h.z, blk_below hb (lt_of_blk h.r) h.r, own_below' h.own hb, h.b.trans (hb.mono h.b.size), h.lt, Nat.lt_of_lt_of_le h.lt2 hb.size⟩
set_option maxHeartbeats 8000000 in
theorem rmake_yes (S T : Nat → Prop) (vf vt vn vs : Value) (s : SchemaL) (id ver : Int) (raws : List (List UInt8)) (rv : Value) (w : World) (h : SchemaAt w S vf vt vn vs s) (hv : Vec w T 1 encS rv raws) (hc : checkS s = 0) (hl : raws.length = s.fields.length) (hn : numberedB id ver = true) (hs : ∀ x ∈ raws, x.length ≤ 1000000) :
    Calls Tryz.prog 37 #[.agg #[vf, vt, vn, vs], .int .i64 id, .int .i64 ver, rv] w (MakePost (makeN s id ver raws) w) := by
  have hmk := makeN_in hc hl hn
  obtain ⟨R, hR⟩ : ∃ R, makeN s id ver raws = R := ⟨_, rfl⟩
  rw [hR] at hmk ⊢
  have HMK := Lib.hid hmk
  clear hmk hR
  obtain ⟨a, cap, rfl⟩ := hv.slice
  obtain ⟨af, cf, rfl⟩ := h.1.slice
  have h5 : raws.length ≤ 5 := by have := (check_fields hc).1.2; omega
  have hne : ((raws.length : Int) != (s.fields.length : Int)) = false := by rw [hl]; simp
  have hn0 := hn
  simp only [numberedB, Bool.and_eq_true, decide_eq_true_iff] at hn0
  obtain ⟨⟨⟨n1, n2⟩, n3⟩, n4⟩ := hn0
  have e1 : decide (id < (1 : Int)) = false := by simp; omega
  have e2 : decide ((1048576 : Int) < id) = false := by simp; omega
  have e3 : decide (ver < (1 : Int)) = false := by simp; omega
  have e4 : decide ((1048576 : Int) < ver) = false := by simp; omega
  have HC := Lib.hid hc; have HV := Lib.hid hv.any; have HS := Lib.hid h.any; have HSh := Lib.hid hs
  clear h hv hc hl hn hs n1 n2 n3 n4
  go_enter Tryz.func37, Tryz.ntmps37
  go_wp2_with fail
  refine wp_calls_world (fun W hW => ?_)
  have hb0 : Below w.heap.size w W := by rw [hW]; exact ((Below.refl w.heap.size w).alloc (Nat.le_refl _) _).alloc (by simp) _
  have hs0 : W.heap[w.heap.size]? = some (.cells #[.slice af s.fields.length cf, vt, vn, vs] 33 (0, 0)) := by rw [hW]; exact blk_old (blk_new rfl)
  have hz0 : W.heap[w.heap.size + 1]? = some (.cells #[.int .i64 0, .int .i64 0, .slice none 0 0] 48 (0, 0)) := by rw [hW]; exact blk_new (by simp)
  clear hW
  refine (rscheck_any Any1 _ _ _ _ s _ (HS.out.below hb0)).mono ?_
  rw [HC.out]
  rintro e w1 ⟨rfl, hb⟩
  have hs1 := blk_below hb (lt_of_blk hs0) hs0; have hz1 := blk_below hb (lt_of_blk hz0) hz0
  have HB1 := Lib.hid (hb0.trans (hb.mono hb0.size)); have HS1 := Lib.hid hs1; have HZ1 := Lib.hid hz1
  obtain ⟨s0, s1, s2, s3⟩ := cellsS hs1
  clear hb hb0 hs0 hz0 hs1 hz1
  go_wp2_with fail
  refine wp_world (fun W2 hW2 => ?_)
  have hm0 : MkAt w w1.heap.size (.slice af s.fields.length cf) vt vn vs id ver (.slice none 0 0) [] W2 := by
    rw [hW2]
    exact ⟨blk_old HS1.out, blk_old HZ1.out, blk_new rfl, ⟨by simp, .inl ⟨rfl, rfl⟩⟩, HB1.out.alloc HB1.out.size _, lt_of_blk HZ1.out, by simp⟩
  have HM0 := Lib.hid hm0
  clear hW2 hm0 s0 s1 s2 s3
  go_loopw [12, 13, 14] (fun i _ _ wr => ∃ (j : Nat) (v : Value) (C : List (List UInt8)), i = .int .i64 j ∧ j ≤ raws.length ∧ C.length = j ∧ Hid (makeA s j C (raws.drop j) = makeA s 0 [] raws) ∧ MkAt w w1.heap.size (.slice af s.fields.length cf) vt vn vs id ver v C wr) (fun i _ _ _ => raws.length - (intOf i).toNat)
  case atStart => exact ⟨0, _, [], rfl, by omega, rfl, Lib.hid rfl, HM0.out⟩
  case round =>
    obtain ⟨j, vC, C, rfl, hj, hCl, HT, hm⟩ := hrel
    have HM := Lib.hid hm; have HCl := Lib.hid hCl; clear hm hCl HM0
    obtain ⟨s0, s1, s2, s3⟩ := cellsS HM.out.s
    by_cases hlt : j < raws.length
    · have hq : decide ((j : Int) < raws.length) = true := by simp; omega
      obtain ⟨x, hx⟩ : ∃ x, raws[j] = x := ⟨_, rfl⟩
      have hxl : x.length ≤ 1000000 := HSh.out x (by rw [← hx]; exact List.getElem_mem _)
      have hT := HT.out
      rw [List.drop_eq_getElem_cons hlt, hx, makeA] at hT
      obtain ⟨b, off, rfl, hb, hc⟩ := (HV.out.below HM.out.b).get j hlt
      have c0 := hc 0 _ rfl
      rw [Nat.mul_one, Nat.add_zero, hx] at c0
      obtain ⟨⟨y, er⟩, hp⟩ : ∃ p, valueN s j x = p := ⟨_, rfl⟩
      rw [hp] at hT
      dsimp only at hT
      have HT2 := Lib.hid hT; have HPv := Lib.hid hp
      clear hc hT hx HT hp
      go_wp2_with fail
      have hbw : b < wr.heap.size := hb
      have hzs := lt_of_blk HM.out.s
      refine wp_region_noPanic ?_
      refine wp_region_held_drew (S := (fun w' => w'.cell? ⟨w.heap.size, 0, none⟩ = some (.slice af s.fields.length cf) ∧ w'.cell? ⟨w.heap.size, 1, none⟩ = some vt ∧ w'.cell? ⟨w.heap.size, 2, none⟩ = some vn ∧ w'.cell? ⟨w.heap.size, 3, none⟩ = some vs ∧ w'.cell? ⟨b, off + j, none⟩ = some (strV x))) (by kernel_rfl) (⟨s0, s1, s2, s3, c0⟩) (fun hHeld => ?_)
      refine tH 0 (h := ?_)
      try simp only [List.getElem_toArray, List.getElem_cons_zero, List.getElem_cons_succ, Act.put, List.setIfInBounds_toArray, List.set_cons_zero, List.set_cons_succ]
      refine tH 1 (h := ?_)
      try simp only [List.getElem_toArray, List.getElem_cons_zero, List.getElem_cons_succ, Act.put, List.setIfInBounds_toArray, List.set_cons_zero, List.set_cons_succ]
      refine tH 2 (h := ?_)
      try simp only [List.getElem_toArray, List.getElem_cons_zero, List.getElem_cons_succ, Act.put, List.setIfInBounds_toArray, List.set_cons_zero, List.set_cons_succ]
      refine tH 3 (h := ?_)
      try simp only [List.getElem_toArray, List.getElem_cons_zero, List.getElem_cons_succ, Act.put, List.setIfInBounds_toArray, List.set_cons_zero, List.set_cons_succ]
      refine tH 4 (h := ?_)
      try simp only [List.getElem_toArray, List.getElem_cons_zero, List.getElem_cons_succ, Act.put, List.setIfInBounds_toArray, List.set_cons_zero, List.set_cons_succ]
      refine tH 5 (h := ?_)
      try simp only [List.getElem_toArray, List.getElem_cons_zero, List.getElem_cons_succ, Act.put, List.setIfInBounds_toArray, List.set_cons_zero, List.set_cons_succ]
      refine wpAnyH_ready (rs := [6]) (by kernel_rfl) (by simp) ?_
      refine AllReadyH.cons rfl (fun K hK => ?_) AllReadyH.nil
      go_simp
      refine (rvalue_any Any1 _ vt vn vs s j ⟨x.toArray⟩ _ ((HS.out.below HM.out.b).below (Below.refl _ _).drew) (by rw [mk_size]; omega)).mono ?_; rw [show (⟨x.toArray⟩ : ByteArray).data.toList = x by simp, HPv.out]; unfold pairV; rintro e w2 ⟨rfl, hb2⟩; have b2 := ((Below.refl wr.heap.size wr).drew).trans hb2; clear hb2
      refine hK.out _ _ (⟨(b2.cell (p := ⟨w.heap.size, 0, none⟩) hzs).trans s0, (b2.cell (p := ⟨w.heap.size, 1, none⟩) hzs).trans s1, (b2.cell (p := ⟨w.heap.size, 2, none⟩) hzs).trans s2, (b2.cell (p := ⟨w.heap.size, 3, none⟩) hzs).trans s3, (b2.cell (p := ⟨b, off + j, none⟩) hbw).trans c0⟩) (fun hHeld => ?_)
      clear hK K
      try simp only [List.getElem_toArray, List.getElem_cons_zero, List.getElem_cons_succ, Act.put, List.setIfInBounds_toArray, List.set_cons_zero, List.set_cons_succ]
      refine tH 7 (h := ?_)
      try simp only [List.getElem_toArray, List.getElem_cons_zero, List.getElem_cons_succ, Act.put, List.setIfInBounds_toArray, List.set_cons_zero, List.set_cons_succ]
      refine tH 8 (h := ?_)
      try simp only [List.getElem_toArray, List.getElem_cons_zero, List.getElem_cons_succ, Act.put, List.setIfInBounds_toArray, List.set_cons_zero, List.set_cons_succ]
      refine tH 9 (h := ?_)
      try simp only [List.getElem_toArray, List.getElem_cons_zero, List.getElem_cons_succ, Act.put, List.setIfInBounds_toArray, List.set_cons_zero, List.set_cons_succ]
      refine tH 10 (h := ?_)
      try simp only [List.getElem_toArray, List.getElem_cons_zero, List.getElem_cons_succ, Act.put, List.setIfInBounds_toArray, List.set_cons_zero, List.set_cons_succ]
      refine tH 11 (h := ?_)
      try simp only [List.getElem_toArray, List.getElem_cons_zero, List.getElem_cons_succ, Act.put, List.setIfInBounds_toArray, List.set_cons_zero, List.set_cons_succ]
      refine wpAnyH_done (by kernel_rfl) ?_ _
      refine NoPanic.normal ?_
      have HM2 := Lib.hid (HM.out.below b2)
      clear hHeld s0 s1 s2 s3 c0 b2 HM hbw hzs hb
      by_cases he : er = 0
      · subst he
        have HT3 := Lib.hid (show makeA s (j + 1) (C ++ [y]) (raws.drop (j + 1)) = makeA s 0 [] raws by rw [← HT2.out, if_pos rfl])
        clear HT2
        obtain ⟨r0, r1, r2⟩ := cells3 HM2.out.r
        have f2 := frozen_of_row _ _ 2 _ _ HM2.out.r
        have hrz := HM2.out.lt2
        have hone : ∀ u ∈ (#[strV y] : Array Value).toList, u.oneCell' = true := by intro u hu; simp at hu; subst hu; rfl
        have hbase : w1.heap.size + 1 ≤ w2.heap.size := hrz
        have hown := HM2.out.own
        have HOwn := Lib.hid hown
        clear hown
        have hcl : C.length < 1099511627776 := by rw [HCl.out]; omega
        go_wp2_with (at_builtin; refine wpList_append_new rfl _ _ 28 rfl (w1.heap.size + 1) 9 1 16 (.string ⟨#[]⟩) Tryz.underlying28 infoS rfl (by decide) (by decide) _ _ _ rfl HOwn.out #[strV y] 1 rfl rfl hone hcl hbase ?_; intro v2 w8 ho8 hw8; obtain ⟨av2, cv2, rfl⟩ := own_slice ho8; have hr8 := (hw8 w2 (Below.refl _ _)).block w1.heap.size (Nat.lt_succ_self _) |>.trans HM2.out.r; obtain ⟨q0, q1, q2⟩ := cells3 hr8; have g2 := frozen_of_row _ _ 2 _ _ hr8; have y8 := lt_of_blk hr8)
        have HW8 := Lib.hid (hw8 w2 (Below.refl _ _)); have HO8 := Lib.hid ho8; have HR8 := Lib.hid hr8
        clear hw8 ho8 hr8
        have hlt := HM2.out.lt
        go_roundw
        case rel =>
          refine ⟨j + 1, .slice av2 (C.length + 1) cv2, C ++ [y], by go_num, by omega, by rw [List.length_append, HCl.out]; rfl, HT3, ?_⟩
          refine ⟨blk_far ((HW8.out.block w.heap.size (by omega)).trans HM2.out.s) (by show w.heap.size ≠ w1.heap.size; omega), blk_far ((HW8.out.block (w.heap.size + 1) (by omega)).trans HM2.out.z) (by show w.heap.size + 1 ≠ w1.heap.size; omega), blk_set (i := 2) HR8.out, ?_, ?_, hlt, by simpa [World.setCell] using y8⟩
          · rw [List.length_append, List.flatMap_append]
            exact own_same HO8.out fun g h1 h2 => heap_setCell_other _ _ _ _ (by show g ≠ w1.heap.size; omega)
          · exact (HM2.out.b.trans (HW8.out.mono (by omega))).setCell (p := ⟨w1.heap.size, 2, none⟩) (by show w.heap.size ≤ w1.heap.size; omega) _
        case measure => simp [intOf]; omega
      · have hne2 : (er != 0) = true := by simpa using he
        have hR : R = (noRec, er) := by rw [HMK.out, ← HT2.out, if_neg he, if_neg he]
        have HRR := Lib.hid hR
        obtain ⟨z0, z1, z2⟩ := cells3 HM2.out.z
        have f0 := frozen_of_row _ _ 0 _ _ HM2.out.z; have f1 := frozen_of_row _ _ 1 _ _ HM2.out.z; have f2 := frozen_of_row _ _ 2 _ _ HM2.out.z
        have yz := lt_of_blk HM2.out.z
        clear hR he HT2
        go_wp2_with fail
        rw [HRR.out]
        exact bodyPost_row2 rfl rfl (blk_set (i := 2) (v := .slice none 0 0) (blk_set (i := 1) (v := .int .i64 0) (blk_set (i := 0) (v := .int .i64 0) HM2.out.z))) Tryz.underlying48 rfl (by kernel_rfl)
          ⟨_, rfl, ⟨_, rfl, Vec.nil _ _ _ _⟩, ((HM2.out.b.setCell (p := ⟨w.heap.size + 1, 0, none⟩) (Nat.le_succ _) _).setCell (p := ⟨w.heap.size + 1, 1, none⟩) (Nat.le_succ _) _).setCell (p := ⟨w.heap.size + 1, 2, none⟩) (Nat.le_succ _) _⟩
    · have hq : decide ((j : Int) < raws.length) = false := by simp; omega
      obtain rfl : j = raws.length := by omega
      have hT := HT.out
      rw [List.drop_length, makeA] at hT
      have hR : R = (⟨id, ver, C⟩, 0) := by rw [HMK.out, ← hT, if_pos rfl]
      have HRR := Lib.hid hR
      have hlt := HM.out.lt
      obtain ⟨z0, z1, z2⟩ := cells3 HM.out.z
      obtain ⟨r0, r1, r2⟩ := cells3 HM.out.r
      have f0 := frozen_of_row _ _ 0 _ _ HM.out.z; have f1 := frozen_of_row _ _ 1 _ _ HM.out.z; have f2 := frozen_of_row _ _ 2 _ _ HM.out.z
      have yz := lt_of_blk HM.out.z
      obtain ⟨aC, cC, hvC⟩ := own_slice HM.out.own
      subst hvC
      clear hR hT HT s0 s1 s2 s3
      go_wp2_with fail
      rw [HRR.out]
      refine bodyPost_row2 rfl rfl (blk_set (i := 2) (v := .slice aC C.length cC) (blk_set (i := 1) (v := .int .i64 ver) (blk_set (i := 0) (v := .int .i64 id) HM.out.z))) Tryz.underlying48 rfl (by kernel_rfl)
        ⟨_, rfl, ⟨_, rfl, ?_⟩, ((HM.out.b.setCell (p := ⟨w.heap.size + 1, 0, none⟩) (Nat.le_succ _) _).setCell (p := ⟨w.heap.size + 1, 1, none⟩) (Nat.le_succ _) _).setCell (p := ⟨w.heap.size + 1, 2, none⟩) (Nat.le_succ _) _⟩
      have hown := own_same (w' := ((wr.setCell ⟨w.heap.size + 1, 0, none⟩ (.int .i64 id)).setCell ⟨w.heap.size + 1, 1, none⟩ (.int .i64 ver)).setCell ⟨w.heap.size + 1, 2, none⟩ (.slice aC C.length cC)) HM.out.own fun g h1 h2 => ((heap_setCell_other _ _ _ _ (by show g ≠ w.heap.size + 1; omega)).trans (heap_setCell_other _ _ _ _ (by show g ≠ w.heap.size + 1; omega))).trans (heap_setCell_other _ _ _ _ (by show g ≠ w.heap.size + 1; omega))
      exact Vec.owns (k := 1) (enc := encS) (fun _ => rfl) hown (fun b h1 _ => by show w.heap.size ≤ b; omega)
end
section
open Go.RowKit
theorem deck_law {w w1 : World} {a : Option Addr} {n cap : Nat} {zs : List Int} (hn : n ≤ 400) (hr : IsRow .i64 w a n cap zs) (hb : Below w.heap.size w w1) :
    DeckAt (w1.alloc (.cells #[.slice a n cap, .int .i64 0, .int .u64 11400714819323198485] 87)) w1.heap.size :=
  deck_new hn fun h0 => by
    obtain ⟨b, off, e1, e2, e3⟩ := hr.read h0
    exact ⟨b, off, e1, Nat.lt_of_lt_of_le e2 hb.size, fun i hi => by obtain ⟨x, hx⟩ := e3 i hi; exact ⟨x, (hb.cell (p := ⟨b, off + i, none⟩) e2).trans hx⟩⟩
end
section
set_option maxRecDepth 100000
open Go.RowKit Cal
attribute [local go_sem] toList_mk mk_size str_append
theorem SchemaAt.moved {D : Nat} {w w' : World} {S : Nat → Prop} {vf vt vn vs : Value} {s : SchemaL} (h : SchemaAt w S vf vt vn vs s) (hS : ∀ b, S b → b ≠ D) (m : Moved D w w') : SchemaAt w' S vf vt vn vs s :=
  have mv : ∀ b, b < w.heap.size → S b → w'.heap[b]? = w.heap[b]? ∧ S b := fun b hb hs => ⟨m.grown.block b hb (by have := hS b hs; simp; omega), hs⟩
  ⟨h.1.move m.size mv, h.2.1.move m.size mv, h.2.2.1.move m.size mv, h.2.2.2.move m.size mv⟩
theorem fields_cell {w : World} {S : Nat → Prop} {a : Option Addr} {n cap : Nat} {F : List F2} (h : Vec w S 2 encF (.slice a n cap) F) (h0 : 0 < F.length) : ∃ b off, a = some ⟨b, off, none⟩ ∧ S b ∧ b < w.heap.size ∧ ∀ j, j < F.length → w.cell? ⟨b, off + j * 2 + 1, none⟩ = some (.int .i64 (F.getD j default).2) := by
  obtain ⟨b, off, e, hS, hb, hc⟩ := vec_cell2 h h0
  exact ⟨b, off, e, hS, hb, fun j hj => hc j hj 1 _ rfl⟩
/-- where a law stands that has dealt a schema: the deck in block D, the schema in block y, the kind of a field in cell o of block b -/
structure Drawn (D : Nat) (w : World) (y : Nat) (S : Nat → Prop) (vf vt vn vs : Value) (s : SchemaL) (b o : Nat) (kf : Int) (wr : World) : Prop where
  m : Moved D w wr
  x : wr.heap[y]? = some (.cells #[vf, vt, vn, vs] 33 (0, 0))
  s : SchemaAt wr S vf vt vn vs s
  c : wr.cell? ⟨b, o, none⟩ = some (.int .i64 kf)
  ne : ∀ b, S b → b ≠ D
  yD : y ≠ D
  bD : b ≠ D
theorem Drawn.moved {D : Nat} {w : World} {y : Nat} {S : Nat → Prop} {vf vt vn vs : Value} {s : SchemaL} {b o : Nat} {kf : Int} {wr wd : World} (h : Drawn D w y S vf vt vn vs s b o kf wr) (m : Moved D wr wd) : Drawn D w y S vf vt vn vs s b o kf wd :=
  ⟨h.m.trans m, m.blk h.yD h.x, h.s.moved h.ne m, (World.cell?_of_block (w := wr) (a := ⟨b, o, none⟩) (m.grown.block b (World.block_lt_of_cell? _ ⟨b, o, none⟩ h.c) (by have := h.bD; simp; omega))).trans h.c, h.ne, h.yD, h.bD⟩
theorem Drawn.below {D : Nat} {w : World} {y : Nat} {S : Nat → Prop} {vf vt vn vs : Value} {s : SchemaL} {b o : Nat} {kf : Int} {wr wd : World} (h : Drawn D w y S vf vt vn vs s b o kf wr) (hb : Below wr.heap.size wr wd) : Drawn D w y S vf vt vn vs s b o kf wd :=
  h.moved ((Moved.start h.m.deck).below hb)
end
section
set_option maxRecDepth 100000
open Go.RowKit Cal
attribute [local go_sem] toList_mk mk_size str_append
theorem makeA_short (s : SchemaL) (raws : List (List UInt8)) : ∀ i C, (∀ x ∈ C, x.length ≤ 64) → ∀ x ∈ (makeA s i C raws).1, x.length ≤ 64 := by
  induction raws with
  | nil => intro i C h; simpa [makeA] using h
  | cons y l ih =>
    intro i C h
    unfold makeA
    split
    · refine ih _ _ fun x hx => ?_
      rcases List.mem_append.1 hx with h1 | h1
      · exact h x h1
      · simp at h1; subst h1; exact (valueN_form s i y).1
    · intro x hx; simp at hx
theorem Vec.far {α : Type} {w : World} {S : Nat → Prop} {k : Nat} {enc : α → List Value} {v : Value} {L : List α} (h : Vec w S k enc v L) {a : Addr} {u : Value} (hn : ∀ b, S b → b ≠ a.block) : Vec (w.setCell a u) S k enc v L :=
  h.move (by simp [World.setCell]) fun b _ hs => ⟨heap_setCell_other _ _ _ _ (hn b hs), hs⟩
theorem oneS : ∀ x : List UInt8, ∀ u ∈ encS x, u.oneCell' = true := by intro x u hu; simp [encS] at hu; subst hu; rfl
theorem rec_made {s : SchemaL} {id ver : Int} {raws : List (List UInt8)} {r : RecL} (h : makeN s id ver raws = (r, 0)) : r.id = id ∧ checkN s r = 0 ∧ ∀ x ∈ r.vals, x.length ≤ 64 := by
  obtain ⟨h1, h2, h3, h4, h5, _, h7, h8, _⟩ := makeN_ok h
  refine ⟨h2, checkN_of h1 (by rw [h2, h3]; exact h4) h5 h7, ?_⟩
  rw [h8]
  exact makeA_short s raws 0 [] (by simp)
theorem rec_none {s : SchemaL} {id : Int} (h : checkS s = 0) (h1 : 1 ≤ id) (h2 : id ≤ 1048576) : checkN s ⟨id, 1, List.replicate s.fields.length []⟩ = 0 :=
  checkN_of h (by simp [numberedB, h1, h2]) (by simp) (none_norm h)
theorem made_strings (m : Nat) : madeCells #[.string ⟨#[]⟩] m = ((List.replicate m ([] : List UInt8)).flatMap encS).toArray := by
  apply Array.ext'
  have : ∀ k, (List.replicate k ([] : List UInt8)).flatMap encS = List.replicate k (.string ⟨#[]⟩) := by
    intro k; induction k with
    | zero => rfl
    | succ k ih => rw [List.replicate_succ, List.flatMap_cons, ih]; rfl
  rw [this]
  unfold madeCells
  rw [Array.toList_map, Array.toList_range]
  refine List.ext_getElem (by simp) fun i h1 h2 => ?_
  simp [Nat.mod_one]
def RecordPost (D : Nat) (s : SchemaL) (id : Int) (w : World) (e : Ending) (w' : World) : Prop := ∃ v r, e = .returned v ∧ RecVal w' (fun b => w.heap.size ≤ b) v r ∧ r.id = id ∧ checkN s r = 0 ∧ (∀ x ∈ r.vals, x.length ≤ 64) ∧ Moved D w w'
set_option maxHeartbeats 8000000 in
theorem record_deal (D : Nat) (S : Nat → Prop) (vf vt vn vs : Value) (s : SchemaL) (id : Int) (w : World) (h : DeckAt w D) (hs : SchemaAt w S vf vt vn vs s) (hS : ∀ b, S b → b ≠ D) (hd : SchemaD s) (h1 : 1 ≤ id) (h2 : id ≤ 1048576) :
    Calls Tryz.prog 15 #[.pointer (some ⟨D, 0, none⟩), .agg #[vf, vt, vn, vs], .int .i64 id] w (RecordPost D s id w) := by
  have zD := h.lt
  have M0 := Lib.hid (Moved.start h); clear h
  obtain ⟨af, cf, rfl⟩ := hs.1.slice
  have h5 := hd.fields.len
  have HS := Lib.hid hs; have HSD := Lib.hid hd; have HSne := Lib.hid hS
  clear hs hd hS
  go_enter Tryz.func15, Tryz.ntmps15
  go_wp2_with fail
  refine wp_world (fun W hW => ?_)
  have hm : Moved D w W := by rw [hW]; exact (M0.out.alloc _).alloc _
  have hb0 : Below w.heap.size w W := by rw [hW]; exact ((Below.refl w.heap.size w).alloc (Nat.le_refl _) _).alloc (by simp) _
  have hs0 : W.heap[w.heap.size]? = some (.cells #[.slice af s.fields.length cf, vt, vn, vs] 33 (0, 0)) := by rw [hW]; exact blk_old (blk_new rfl)
  have hz0 : W.heap[w.heap.size + 1]? = some (.cells #[.int .i64 0, .int .i64 0, .slice none 0 0] 48 (0, 0)) := by rw [hW]; exact blk_new (by simp)
  have hzW : W.heap.size = w.heap.size + 2 := by rw [hW]; simp
  clear hW
  have HM := Lib.hid hm; have HS0 := Lib.hid hs0; have HZ0 := Lib.hid hz0; have HSW := Lib.hid (HS.out.below hb0); have HZW := Lib.hid hzW
  clear hm hs0 hz0 hb0 hzW
  obtain ⟨n, hn⟩ : ∃ n, s.fields.length = n := ⟨_, rfl⟩
  rw [hn] at HS0 HSW h5 ⊢
  have HN := Lib.hid hn; clear hn
  go_loopw [7, 8] (fun v i wr => ∃ (j : Nat) (L : List (List UInt8)), i = .int .i64 j ∧ j ≤ n ∧ L.length = j ∧ (∀ x ∈ L, x.length ≤ 64) ∧ OwnM D 9 1 encS W v L wr) (fun _ i _ => n - (intOf i).toNat)
  case atStart => exact ⟨0, [], rfl, by omega, rfl, by simp, ⟨by simp, .inl ⟨rfl, rfl⟩⟩, Moved.start HM.out.deck⟩
  case round =>
    obtain ⟨j, L, rfl, hj, hL, hsh, ho⟩ := hrel
    have HO := Lib.hid ho; have HL := Lib.hid hL; have HSh := Lib.hid hsh
    have hsr := ho.2.blk (k := w.heap.size) (by omega) HS0.out
    have HSR := Lib.hid hsr
    obtain ⟨s0, s1, s2, s3⟩ := cellsS hsr
    have hzs := lt_of_blk hsr
    clear ho hL hsh hsr
    by_cases hlt : j < n
    · have hq : decide ((j : Int) < n) = true := by simp; omega
      have hjs : j < s.fields.length := by rw [HN.out]; exact hlt
      obtain ⟨b, off, eaf, hSb, hb, hc⟩ := fields_cell HSW.out.1 (by omega)
      cases eaf
      have hbD := HSne.out b hSb
      have kc := (World.cell?_of_block (w := W) (a := ⟨b, off + j * 2 + 1, none⟩) (HO.out.2.grown.block b hb (by simp; omega))).trans (hc j hjs)
      obtain ⟨kf, hkf⟩ : ∃ kf, (s.fields.getD j default).2 = kf := ⟨_, rfl⟩
      rw [hkf] at kc
      have hjn : (j : Int) < (n : Int) := by omega
      clear hc hkf hjs hSb
      go_wp2_with fail
      refine (raw_deal D kf _ HO.out.2.deck).mono ?_
      rintro e w1 ⟨x, rfl, hx, mv⟩
      have HX := Lib.hid hx
      have HO1 := Lib.hid (HO.out.moved (mv.alloc (.cells #[strV x] 9)))
      have HR1 := Lib.hid (show Reads (w1.alloc (.cells #[strV x] 9)) 1 (.slice (some ⟨w1.heap.size, 0, none⟩) 1 1) [x].length ([x].flatMap encS) from reads_block (t := 9) (fr := (0, 0)) (blk_new rfl) rfl)
      have hsh2 : ∀ y ∈ L ++ [x], y.length ≤ 64 := by
        intro y hy
        rcases List.mem_append.1 hy with h | h
        · exact HSh.out y h
        · simp at h; subst h; exact hx
      have HSh2 := Lib.hid hsh2
      have hcn : L.length + [x].length ≤ 1000000000 := by rw [HL.out]; simp only [List.length_cons, List.length_nil]; omega
      clear hx mv hsh2
      go_wp2_with (at_builtin; refine wpList_append_m rfl (.tmp 18) (.tmp 27) 28 rfl D 9 (.string ⟨#[]⟩) 1 16 encS (fun _ => rfl) oneS Tryz.underlying28 infoS rfl (by decide) (by decide) (wA := W) (v := u7) (A := L) (B := [x]) rfl HO1.out rfl HR1.out hcn ?_; intro v4 w4 ho4 hk4)
      go_roundw
      case rel => exact ⟨j + 1, L ++ [x], by go_num, by omega, by rw [List.length_append, HL.out]; rfl, HSh2.out, ho4⟩
      case measure => simp [intOf]; omega
    · have hq : decide ((j : Int) < n) = false := by simp; omega
      obtain rfl : j = n := by omega
      have HV := Lib.hid (Vec.owns (k := 1) (enc := encS) (S := fun b => W.heap.size ≤ b) (fun _ => rfl) HO.out.1 (fun b hb _ => hb))
      obtain ⟨aL, cL, hvL⟩ := own_slice HO.out.1
      subst hvL
      have HSr := Lib.hid (HSW.out.moved HSne.out HO.out.2)
      have hneD : w.heap.size ≠ D := by omega
      have mD : Moved D wr wr.drew := (Moved.start HO.out.2.deck).drew
      go_wp2_with fail
      go_cut [9, 10] (fun s9 s10 wx => ∃ (rb : Nat) (er y : Int) (sv : Value) (r : RecL), s9 = .pointer (some ⟨rb, 0, none⟩) ∧ s10 = .int .i64 er ∧ wx.heap[rb]? = some (.cells #[.int .i64 r.id, .int .i64 r.ver, sv] 48 (0, 0)) ∧ Vec wx (fun b => w.heap.size + 2 ≤ b) 1 encS sv r.vals ∧ Hid (makeN s id (1 + y) L = (r, er)) ∧ 0 ≤ y ∧ y < 3 ∧ Moved D wr wx ∧ wr.heap.size ≤ rb)
      case first =>
        refine wp_region_noPanic ?_
        refine wp_region_k (by kernel_rfl) (fun w' => w'.cell? ⟨w.heap.size, 0, none⟩ = some (.slice af j cf) ∧ w'.cell? ⟨w.heap.size, 1, none⟩ = some vt ∧ w'.cell? ⟨w.heap.size, 2, none⟩ = some vn ∧ w'.cell? ⟨w.heap.size, 3, none⟩ = some vs) 12 (⟨s0, s1, s2, s3⟩) (fun hHeld => ?_)
        refine tK 0 (h := ?_)
        try simp only [List.getElem_toArray, List.getElem_cons_zero, List.getElem_cons_succ, Act.put, List.setIfInBounds_toArray, List.set_cons_zero, List.set_cons_succ]
        refine tK 1 (h := ?_)
        try simp only [List.getElem_toArray, List.getElem_cons_zero, List.getElem_cons_succ, Act.put, List.setIfInBounds_toArray, List.set_cons_zero, List.set_cons_succ]
        refine tK 2 (h := ?_)
        try simp only [List.getElem_toArray, List.getElem_cons_zero, List.getElem_cons_succ, Act.put, List.setIfInBounds_toArray, List.set_cons_zero, List.set_cons_succ]
        refine tK 5 (h := ?_)
        try simp only [List.getElem_toArray, List.getElem_cons_zero, List.getElem_cons_succ, Act.put, List.setIfInBounds_toArray, List.set_cons_zero, List.set_cons_succ]
        refine wpAnyK_ready (rs := [3, 10]) (by kernel_rfl) (by simp) ?_
        refine AllReadyK.cons rfl (fun K hK => ?_) (AllReadyK.cons rfl (fun K hK => ?_) AllReadyK.nil)
        focus
          go_simp
          refine (next_any D _ 3 mD.deck (by omega) (by omega)).mono ?_
          rintro e W1 ⟨y, rfl, y0, y1, mv⟩
          have m1 := mD.trans mv
          clear mv
          have hwy : IntKind.i64.wrap (1 + y) = 1 + y := by rw [IntKind.wrap_i64]; omega
          refine shutK hK (⟨(cellsS (m1.blk (k := w.heap.size) hneD HSR.out)).1, (cellsS (m1.blk (k := w.heap.size) hneD HSR.out)).2.1, (cellsS (m1.blk (k := w.heap.size) hneD HSR.out)).2.2.1, (cellsS (m1.blk (k := w.heap.size) hneD HSR.out)).2.2.2⟩) (fun hHeld => ?_)
          clear hK K
          try simp only [List.getElem_toArray, List.getElem_cons_zero, List.getElem_cons_succ, Act.put, List.setIfInBounds_toArray, List.set_cons_zero, List.set_cons_succ]
          refine tK 4 (h := ?_)
          try simp only [List.getElem_toArray, List.getElem_cons_zero, List.getElem_cons_succ, Act.put, List.setIfInBounds_toArray, List.set_cons_zero, List.set_cons_succ]
          refine wpAnyK_ready (rs := [6, 10]) (by kernel_rfl) (by simp) ?_
          refine AllReadyK.cons rfl (fun K hK => ?_) (AllReadyK.cons rfl (fun K hK => ?_) AllReadyK.nil)
          focus
            go_simp
            have hnum : numberedB id (1 + y) = true := by simp [numberedB]; omega
            obtain ⟨⟨r, er⟩, hR⟩ : ∃ R, makeN s id (1 + y) L = R := ⟨_, rfl⟩
            have hmk := rmake_yes S _ (.slice af j cf) vt vn vs s id (1 + y) L (.slice aL L.length cL) _ (HSr.out.moved HSne.out m1) (HV.out.move (S' := fun b => W.heap.size ≤ b) m1.size fun b hb hs => ⟨m1.grown.block b hb (by have hs' : W.heap.size ≤ b := hs; have h3 := HZW.out; have h4 := zD; simp; omega), hs⟩) HSD.out.check (HL.out.trans HN.out.symm) hnum (fun x hx => by have := HSh.out x hx; omega)
            rw [hR] at hmk
            refine hmk.mono ?_
            rintro e W2 ⟨_, rfl, ⟨sv, rfl, hvv⟩, hb⟩
            have m2 := m1.below hb
            have hvv2 := hvv.move (w' := W2) (S' := fun b => w.heap.size + 2 ≤ b) (Nat.le_refl _) fun b hb' hs => ⟨rfl, by have h1 := m1.size; have h2 := HO.out.2.size; have h3 := HZW.out; have hs' := hs; omega⟩
            obtain ⟨asv, csv, esv⟩ := hvv2.slice; subst esv
            have HRR := Lib.hid hR
            clear hb hvv hmk hR
            refine shutK hK (⟨(cellsS (m2.blk (k := w.heap.size) hneD HSR.out)).1, (cellsS (m2.blk (k := w.heap.size) hneD HSR.out)).2.1, (cellsS (m2.blk (k := w.heap.size) hneD HSR.out)).2.2.1, (cellsS (m2.blk (k := w.heap.size) hneD HSR.out)).2.2.2⟩) (fun hHeld => ?_)
            clear hK K
            try simp only [List.getElem_toArray, List.getElem_cons_zero, List.getElem_cons_succ, Act.put, List.setIfInBounds_toArray, List.set_cons_zero, List.set_cons_succ]
            refine tK 7 (h := ?_)
            try simp only [List.getElem_toArray, List.getElem_cons_zero, List.getElem_cons_succ, Act.put, List.setIfInBounds_toArray, List.set_cons_zero, List.set_cons_succ]
            refine tK 8 (h := ?_)
            try simp only [List.getElem_toArray, List.getElem_cons_zero, List.getElem_cons_succ, Act.put, List.setIfInBounds_toArray, List.set_cons_zero, List.set_cons_succ]
            refine tK 9 (h := ?_)
            try simp only [List.getElem_toArray, List.getElem_cons_zero, List.getElem_cons_succ, Act.put, List.setIfInBounds_toArray, List.set_cons_zero, List.set_cons_succ]
            refine wpAnyK_ready (rs := [10]) (by kernel_rfl) (by simp) ?_
            refine AllReadyK.cons rfl (fun K hK => ?_) AllReadyK.nil
            go_simp
            refine shutK hK (⟨(cellsS ((m2.alloc _).blk (k := w.heap.size) hneD HSR.out)).1, (cellsS ((m2.alloc _).blk (k := w.heap.size) hneD HSR.out)).2.1, (cellsS ((m2.alloc _).blk (k := w.heap.size) hneD HSR.out)).2.2.1, (cellsS ((m2.alloc _).blk (k := w.heap.size) hneD HSR.out)).2.2.2⟩) (fun hHeld => ?_)
            clear hK K
            try simp only [List.getElem_toArray, List.getElem_cons_zero, List.getElem_cons_succ, Act.put, List.setIfInBounds_toArray, List.set_cons_zero, List.set_cons_succ]
            refine wpk_name (fun W3 hW3 => ?_)
            have m3 : Moved D wr W3 := by rw [hW3]; exact m2.alloc (.cells #[.int .i64 0, .int .i64 0, .slice none 0 0] 48)
            have gb : W3.heap[W2.heap.size]? = some (.cells #[.int .i64 0, .int .i64 0, .slice none 0 0] 48 (0, 0)) := by rw [hW3]; exact blk_new rfl
            have hrb : wr.heap.size ≤ W2.heap.size := m2.size
            have HX3 : ∀ b, b < W2.heap.size → W3.heap[b]? = W2.heap[b]? := by rw [hW3]; exact fun b hb => heap_alloc_old _ _ hb
            have hnrb : w.heap.size ≠ W2.heap.size := by have := hzs; omega
            clear hW3 hHeld
            have hHeld : W3.cell? ⟨w.heap.size, 0, none⟩ = some (.slice af j cf) ∧ W3.cell? ⟨w.heap.size, 1, none⟩ = some vt ∧ W3.cell? ⟨w.heap.size, 2, none⟩ = some vn ∧ W3.cell? ⟨w.heap.size, 3, none⟩ = some vs := ⟨(cellsS (m3.blk (k := w.heap.size) hneD HSR.out)).1, (cellsS (m3.blk (k := w.heap.size) hneD HSR.out)).2.1, (cellsS (m3.blk (k := w.heap.size) hneD HSR.out)).2.2.1, (cellsS (m3.blk (k := w.heap.size) hneD HSR.out)).2.2.2⟩
            have hvv3 := hvv2.move (w' := W3) (S' := fun b => w.heap.size + 2 ≤ b ∧ b ≠ W2.heap.size) (by have h9 := lt_of_blk gb; omega) fun b hb' hs => ⟨HX3 b hb', hs, by omega⟩
          rotate_left 1
          focus
            go_simp
            refine shutK hK (⟨(cellsS ((m1.alloc _).blk (k := w.heap.size) hneD HSR.out)).1, (cellsS ((m1.alloc _).blk (k := w.heap.size) hneD HSR.out)).2.1, (cellsS ((m1.alloc _).blk (k := w.heap.size) hneD HSR.out)).2.2.1, (cellsS ((m1.alloc _).blk (k := w.heap.size) hneD HSR.out)).2.2.2⟩) (fun hHeld => ?_)
            clear hK K
            try simp only [List.getElem_toArray, List.getElem_cons_zero, List.getElem_cons_succ, Act.put, List.setIfInBounds_toArray, List.set_cons_zero, List.set_cons_succ]
            refine wpk_name (fun W2 hW2 => ?_)
            have m2 : Moved D wr W2 := by rw [hW2]; exact m1.alloc (.cells #[.int .i64 0, .int .i64 0, .slice none 0 0] 48)
            have gb : W2.heap[W1.heap.size]? = some (.cells #[.int .i64 0, .int .i64 0, .slice none 0 0] 48 (0, 0)) := by rw [hW2]; exact blk_new rfl
            have hrb : wr.heap.size ≤ W1.heap.size := m1.size
            have HX2 : ∀ b, b < W1.heap.size → W2.heap[b]? = W1.heap[b]? := by rw [hW2]; exact fun b hb => heap_alloc_old _ _ hb
            have hnrb : w.heap.size ≠ W1.heap.size := by have := hzs; omega
            clear hW2 hHeld
            have hHeld : W2.cell? ⟨w.heap.size, 0, none⟩ = some (.slice af j cf) ∧ W2.cell? ⟨w.heap.size, 1, none⟩ = some vt ∧ W2.cell? ⟨w.heap.size, 2, none⟩ = some vn ∧ W2.cell? ⟨w.heap.size, 3, none⟩ = some vs := ⟨(cellsS (m2.blk (k := w.heap.size) hneD HSR.out)).1, (cellsS (m2.blk (k := w.heap.size) hneD HSR.out)).2.1, (cellsS (m2.blk (k := w.heap.size) hneD HSR.out)).2.2.1, (cellsS (m2.blk (k := w.heap.size) hneD HSR.out)).2.2.2⟩
            refine wpAnyK_ready (rs := [6]) (by kernel_rfl) (by simp) ?_
            refine AllReadyK.cons rfl (fun K hK => ?_) AllReadyK.nil
            go_simp
            have hlt0 : W1.heap.size < _ := lt_of_blk gb
            have hnum : numberedB id (1 + y) = true := by simp [numberedB]; omega
            obtain ⟨⟨r, er⟩, hR⟩ : ∃ R, makeN s id (1 + y) L = R := ⟨_, rfl⟩
            have hmk := rmake_yes S _ (.slice af j cf) vt vn vs s id (1 + y) L (.slice aL L.length cL) _ (HSr.out.moved HSne.out m2) (HV.out.move (S' := fun b => W.heap.size ≤ b) m2.size fun b hb hs => ⟨m2.grown.block b hb (by have hs' : W.heap.size ≤ b := hs; have h3 := HZW.out; have h4 := zD; simp; omega), hs⟩) HSD.out.check (HL.out.trans HN.out.symm) hnum (fun x hx => by have := HSh.out x hx; omega)
            rw [hR] at hmk
            refine hmk.mono ?_
            rintro e W3 ⟨_, rfl, ⟨sv, rfl, hvv⟩, hb⟩
            have m3 := m2.below hb
            have gb := blk_below hb (lt_of_blk gb) gb
            have hvv2 := hvv.move (w' := W3) (S' := fun b => w.heap.size + 2 ≤ b ∧ b ≠ W1.heap.size) (Nat.le_refl _) fun b hb' hs => ⟨rfl, by have h1 := m2.size; have h2 := HO.out.2.size; have h3 := HZW.out; have hs' := hs; exact ⟨by omega, by omega⟩⟩
            obtain ⟨asv, csv, esv⟩ := hvv2.slice; subst esv
            have HRR := Lib.hid hR
            clear hb hvv hmk hR
            refine shutK hK (⟨(cellsS (m3.blk (k := w.heap.size) hneD HSR.out)).1, (cellsS (m3.blk (k := w.heap.size) hneD HSR.out)).2.1, (cellsS (m3.blk (k := w.heap.size) hneD HSR.out)).2.2.1, (cellsS (m3.blk (k := w.heap.size) hneD HSR.out)).2.2.2⟩) (fun hHeld => ?_)
            clear hK K
            try simp only [List.getElem_toArray, List.getElem_cons_zero, List.getElem_cons_succ, Act.put, List.setIfInBounds_toArray, List.set_cons_zero, List.set_cons_succ]
            refine tK 7 (h := ?_)
            try simp only [List.getElem_toArray, List.getElem_cons_zero, List.getElem_cons_succ, Act.put, List.setIfInBounds_toArray, List.set_cons_zero, List.set_cons_succ]
            refine tK 8 (h := ?_)
            try simp only [List.getElem_toArray, List.getElem_cons_zero, List.getElem_cons_succ, Act.put, List.setIfInBounds_toArray, List.set_cons_zero, List.set_cons_succ]
            refine tK 9 (h := ?_)
            try simp only [List.getElem_toArray, List.getElem_cons_zero, List.getElem_cons_succ, Act.put, List.setIfInBounds_toArray, List.set_cons_zero, List.set_cons_succ]
            have hvv3 := hvv2
        rotate_left 2
        focus
          go_simp
          refine shutK hK (⟨(cellsS ((mD.alloc _).blk (k := w.heap.size) hneD HSR.out)).1, (cellsS ((mD.alloc _).blk (k := w.heap.size) hneD HSR.out)).2.1, (cellsS ((mD.alloc _).blk (k := w.heap.size) hneD HSR.out)).2.2.1, (cellsS ((mD.alloc _).blk (k := w.heap.size) hneD HSR.out)).2.2.2⟩) (fun hHeld => ?_)
          clear hK K
          try simp only [List.getElem_toArray, List.getElem_cons_zero, List.getElem_cons_succ, Act.put, List.setIfInBounds_toArray, List.set_cons_zero, List.set_cons_succ]
          refine wpk_name (fun W1 hW1 => ?_)
          have m1 : Moved D wr W1 := by rw [hW1]; exact mD.alloc (.cells #[.int .i64 0, .int .i64 0, .slice none 0 0] 48)
          have gb : W1.heap[wr.heap.size]? = some (.cells #[.int .i64 0, .int .i64 0, .slice none 0 0] 48 (0, 0)) := by rw [hW1]; exact blk_new rfl
          have hrb : wr.heap.size ≤ wr.heap.size := mD.size
          have HX1 : ∀ b, b < wr.heap.size → W1.heap[b]? = wr.heap[b]? := by rw [hW1]; exact fun b hb => heap_alloc_old _ _ hb
          have hnrb : w.heap.size ≠ wr.heap.size := by have := hzs; omega
          clear hW1 hHeld
          have hHeld : W1.cell? ⟨w.heap.size, 0, none⟩ = some (.slice af j cf) ∧ W1.cell? ⟨w.heap.size, 1, none⟩ = some vt ∧ W1.cell? ⟨w.heap.size, 2, none⟩ = some vn ∧ W1.cell? ⟨w.heap.size, 3, none⟩ = some vs := ⟨(cellsS (m1.blk (k := w.heap.size) hneD HSR.out)).1, (cellsS (m1.blk (k := w.heap.size) hneD HSR.out)).2.1, (cellsS (m1.blk (k := w.heap.size) hneD HSR.out)).2.2.1, (cellsS (m1.blk (k := w.heap.size) hneD HSR.out)).2.2.2⟩
          refine wpAnyK_ready (rs := [3]) (by kernel_rfl) (by simp) ?_
          refine AllReadyK.cons rfl (fun K hK => ?_) AllReadyK.nil
          go_simp
          refine (next_any D _ 3 m1.deck (by omega) (by omega)).mono ?_
          rintro e W2 ⟨y, rfl, y0, y1, mv⟩
          have m2 := m1.trans mv
          have gb := mv.blk (by have := zD; omega) gb
          clear mv
          have hwy : IntKind.i64.wrap (1 + y) = 1 + y := by rw [IntKind.wrap_i64]; omega
          refine shutK hK (⟨(cellsS (m2.blk (k := w.heap.size) hneD HSR.out)).1, (cellsS (m2.blk (k := w.heap.size) hneD HSR.out)).2.1, (cellsS (m2.blk (k := w.heap.size) hneD HSR.out)).2.2.1, (cellsS (m2.blk (k := w.heap.size) hneD HSR.out)).2.2.2⟩) (fun hHeld => ?_)
          clear hK K
          try simp only [List.getElem_toArray, List.getElem_cons_zero, List.getElem_cons_succ, Act.put, List.setIfInBounds_toArray, List.set_cons_zero, List.set_cons_succ]
          refine tK 4 (h := ?_)
          try simp only [List.getElem_toArray, List.getElem_cons_zero, List.getElem_cons_succ, Act.put, List.setIfInBounds_toArray, List.set_cons_zero, List.set_cons_succ]
          refine wpAnyK_ready (rs := [6]) (by kernel_rfl) (by simp) ?_
          refine AllReadyK.cons rfl (fun K hK => ?_) AllReadyK.nil
          go_simp
          have hlt0 : wr.heap.size < _ := lt_of_blk gb
          have hnum : numberedB id (1 + y) = true := by simp [numberedB]; omega
          obtain ⟨⟨r, er⟩, hR⟩ : ∃ R, makeN s id (1 + y) L = R := ⟨_, rfl⟩
          have hmk := rmake_yes S _ (.slice af j cf) vt vn vs s id (1 + y) L (.slice aL L.length cL) _ (HSr.out.moved HSne.out m2) (HV.out.move (S' := fun b => W.heap.size ≤ b) m2.size fun b hb hs => ⟨m2.grown.block b hb (by have hs' : W.heap.size ≤ b := hs; have h3 := HZW.out; have h4 := zD; simp; omega), hs⟩) HSD.out.check (HL.out.trans HN.out.symm) hnum (fun x hx => by have := HSh.out x hx; omega)
          rw [hR] at hmk
          refine hmk.mono ?_
          rintro e W3 ⟨_, rfl, ⟨sv, rfl, hvv⟩, hb⟩
          have m3 := m2.below hb
          have gb := blk_below hb (lt_of_blk gb) gb
          have hvv2 := hvv.move (w' := W3) (S' := fun b => w.heap.size + 2 ≤ b ∧ b ≠ wr.heap.size) (Nat.le_refl _) fun b hb' hs => ⟨rfl, by have h1 := m2.size; have h2 := HO.out.2.size; have h3 := HZW.out; have hs' := hs; exact ⟨by omega, by omega⟩⟩
          obtain ⟨asv, csv, esv⟩ := hvv2.slice; subst esv
          have HRR := Lib.hid hR
          clear hb hvv hmk hR
          refine shutK hK (⟨(cellsS (m3.blk (k := w.heap.size) hneD HSR.out)).1, (cellsS (m3.blk (k := w.heap.size) hneD HSR.out)).2.1, (cellsS (m3.blk (k := w.heap.size) hneD HSR.out)).2.2.1, (cellsS (m3.blk (k := w.heap.size) hneD HSR.out)).2.2.2⟩) (fun hHeld => ?_)
          clear hK K
          try simp only [List.getElem_toArray, List.getElem_cons_zero, List.getElem_cons_succ, Act.put, List.setIfInBounds_toArray, List.set_cons_zero, List.set_cons_succ]
          refine tK 7 (h := ?_)
          try simp only [List.getElem_toArray, List.getElem_cons_zero, List.getElem_cons_succ, Act.put, List.setIfInBounds_toArray, List.set_cons_zero, List.set_cons_succ]
          refine tK 8 (h := ?_)
          try simp only [List.getElem_toArray, List.getElem_cons_zero, List.getElem_cons_succ, Act.put, List.setIfInBounds_toArray, List.set_cons_zero, List.set_cons_succ]
          refine tK 9 (h := ?_)
          try simp only [List.getElem_toArray, List.getElem_cons_zero, List.getElem_cons_succ, Act.put, List.setIfInBounds_toArray, List.set_cons_zero, List.set_cons_succ]
          have hvv3 := hvv2
        all_goals
          obtain ⟨c0, c1, c2⟩ := cells3 gb; have f0 := frozen_of_row _ _ 0 _ _ gb; have f1 := frozen_of_row _ _ 1 _ _ gb; have f2 := frozen_of_row _ _ 2 _ _ gb; have za := lt_of_blk gb
          have hsx := blk_far (a := ⟨_, 2, none⟩) (v := .slice asv r.vals.length csv) (blk_far (a := ⟨_, 1, none⟩) (v := .int .i64 r.ver) (blk_far (a := ⟨_, 0, none⟩) (v := .int .i64 r.id) (m3.blk (k := w.heap.size) hneD HSR.out) hnrb) hnrb) hnrb
          refine wpAnyK_ready (rs := [11]) (by kernel_rfl) (by simp) ?_
          refine AllReadyK.cons rfl (fun K hK => ?_) AllReadyK.nil
          go_simp
          refine shutK hK (⟨(cellsS hsx).1, (cellsS hsx).2.1, (cellsS hsx).2.2.1, (cellsS hsx).2.2.2⟩) (fun hHeld => ?_)
          clear hK K
          try simp only [List.getElem_toArray, List.getElem_cons_zero, List.getElem_cons_succ, Act.put, List.setIfInBounds_toArray, List.set_cons_zero, List.set_cons_succ]
          refine wpAnyK_ready (rs := [12]) (by kernel_rfl) (by simp) ?_
          refine AllReadyK.cons rfl (fun K hK => ?_) AllReadyK.nil
          go_simp
          refine shutK_off hK (by decide) ?_
          clear hK K
          try simp only [List.getElem_toArray, List.getElem_cons_zero, List.getElem_cons_succ, Act.put, List.setIfInBounds_toArray, List.set_cons_zero, List.set_cons_succ]
          refine wpAnyK_done (by kernel_rfl) ?_ _
          refine NoPanic.normal ?_
          go_wp2_with fail
          go_meet
          exact ⟨_, er, y, _, r, rfl, rfl, blk_set (blk_set (blk_set gb)), (((hvv3.far (fun b hb => hb.2)).far (fun b hb => hb.2)).far (fun b hb => hb.2)).weaken (fun b hb => hb.1), HRR, y0, y1, ((m3.set hrb _).set hrb _).set hrb _, hrb⟩
      case rest =>
        obtain ⟨rb, er, y, sv, r, rfl, rfl, grb, hvr, HRR, y0, y1, mw, hrb⟩ := hcut
        obtain ⟨asv, csv, rfl⟩ := hvr.slice
        have hsz := mw.blk (k := w.heap.size) hneD HSR.out
        have hres := mw.blk (k := w.heap.size + 1) (by omega) (HO.out.2.blk (k := w.heap.size + 1) (by omega) HZ0.out)
        have hn1 : rb ≠ w.heap.size + 1 := by have h1 := HO.out.2.size; have h2 := HZW.out; omega
        have lr := lt_of_blk hres; have lb := lt_of_blk grb; have lz := lt_of_blk hsz
        have HRES := Lib.hid hres; have HMW := Lib.hid (HM.out.trans (HO.out.2.trans mw)); have HVR := Lib.hid hvr; have HGRB := Lib.hid grb
        obtain ⟨z0, z1, z2⟩ := cells3 hres; have f0 := frozen_of_row _ _ 0 _ _ hres; have f1 := frozen_of_row _ _ 1 _ _ hres; have f2 := frozen_of_row _ _ 2 _ _ hres
        obtain ⟨c0, c1, c2⟩ := cells3 grb; have g0 := frozen_of_row _ _ 0 _ _ grb; have g1 := frozen_of_row _ _ 1 _ _ grb; have g2 := frozen_of_row _ _ 2 _ _ grb
        clear s0 s1 s2 s3
        obtain ⟨s0, s1, s2, s3⟩ := cellsS hsz
        clear hsz hres grb hvr mw mD
        by_cases he : er = 0
        · subst he
          have d0 : ((0 : Int) != 0) = false := rfl
          have HMd := Lib.hid (rec_made HRR.out)
          clear g0 g1 g2
          go_wp2_with fail
          exact bodyPost_row1 rfl rfl (blk_set (i := 2) (blk_set (i := 1) (blk_set (i := 0) HRES.out))) Tryz.underlying48 rfl (by kernel_rfl)
            ⟨_, r, rfl, ⟨_, rfl, (((HVR.out.far (fun b hb => by show b ≠ w.heap.size + 1; have hb' : w.heap.size + 2 ≤ b := hb; omega)).far (fun b hb => by show b ≠ w.heap.size + 1; have hb' : w.heap.size + 2 ≤ b := hb; omega)).far (fun b hb => by show b ≠ w.heap.size + 1; have hb' : w.heap.size + 2 ≤ b := hb; omega)).weaken (fun b hb => by have hb' : w.heap.size + 2 ≤ b := hb; show w.heap.size ≤ b; omega)⟩, HMd.out.1, HMd.out.2.1, HMd.out.2.2,
              ((HMW.out.set (a := ⟨w.heap.size + 1, 0, none⟩) (Nat.le_succ _) _).set (a := ⟨w.heap.size + 1, 1, none⟩) (Nat.le_succ _) _).set (a := ⟨w.heap.size + 1, 2, none⟩) (Nat.le_succ _) _⟩
        · have d0 : (er != (0 : Int)) = true := by simpa using he
          have hmk := run_make_row' (P := Tryz.prog) 28 9 (.string ⟨#[]⟩) 16 Tryz.underlying28 infoS rfl .i64 .i64 j (by omega) (by omega)
          rw [made_strings] at hmk
          clear HVR HRR he
          go_upto_region 9 with fail
          refine wp_world (fun W9 hW9 => ?_)
          have hrw : w.heap.size ≤ rb := by have h1 := HO.out.2.size; have h2 := HZW.out; omega
          have hgb : W9.heap[rb]? = some (.cells #[.int .i64 id, .int .i64 1, .slice (some ⟨wc.heap.size, 0, none⟩) j j] 48 (0, 0)) := by rw [hW9]; exact blk_old (blk_set (i := 2) (blk_set (i := 1) (blk_set (i := 0) HGRB.out)))
          have hg9 : W9.heap[wc.heap.size]? = some (.cells ((List.replicate j ([] : List UInt8)).flatMap encS).toArray 9 (0, 0)) := by rw [hW9]; exact blk_new (by simp [World.setCell])
          have hr9 : W9.heap[w.heap.size + 1]? = some (.cells #[.int .i64 0, .int .i64 0, .slice none 0 0] 48 (0, 0)) := by rw [hW9]; exact blk_old (blk_far (blk_far (blk_far HRES.out hn1.symm) hn1.symm) hn1.symm)
          have m9 : Moved D w W9 := by rw [hW9]; exact (((HMW.out.set (a := ⟨rb, 0, none⟩) hrw _).set (a := ⟨rb, 1, none⟩) hrw _).set (a := ⟨rb, 2, none⟩) hrw _).alloc _
          have HG9 := Lib.hid hg9; have HR9 := Lib.hid hr9; have HM9 := Lib.hid m9
          clear hW9 c0 c1 c2 z0 z1 z2 f0 f1 f2 g0 g1 g2 s0 s1 s2 s3 m9 hmk
          obtain ⟨z0, z1, z2⟩ := cells3 hr9; have f0 := frozen_of_row _ _ 0 _ _ hr9; have f1 := frozen_of_row _ _ 1 _ _ hr9; have f2 := frozen_of_row _ _ 2 _ _ hr9
          obtain ⟨c0, c1, c2⟩ := cells3 hgb
          have l1 := lt_of_blk hr9; have l2 := lt_of_blk hgb
          have HCk := Lib.hid (show checkN s ⟨id, 1, List.replicate j []⟩ = 0 by rw [← HN.out]; exact rec_none HSD.out.check h1 h2)
          clear hr9 hgb hg9
          go_wp2_with fail
          exact bodyPost_row1 rfl rfl (blk_set (i := 2) (blk_set (i := 1) (blk_set (i := 0) HR9.out))) Tryz.underlying48 rfl (by kernel_rfl)
            ⟨_, ⟨id, 1, List.replicate j []⟩, rfl, ⟨_, rfl, (((blockVec (k := 1) (enc := encS) (L := List.replicate j ([] : List UInt8)) (S := fun b => w.heap.size ≤ b ∧ b ≠ w.heap.size + 1) (A := wc.heap.size) (fun _ => rfl) HG9.out ⟨by omega, by omega⟩ j (by simp)).far (fun b hb => hb.2)).far (fun b hb => hb.2)).far (fun b hb => hb.2) |>.weaken (fun b hb => hb.1)⟩, rfl, HCk.out, (by intro x hx; have := List.eq_of_mem_replicate hx; subst this; simp),
              ((HM9.out.set (a := ⟨w.heap.size + 1, 0, none⟩) (Nat.le_succ _) _).set (a := ⟨w.heap.size + 1, 1, none⟩) (Nat.le_succ _) _).set (a := ⟨w.heap.size + 1, 2, none⟩) (Nat.le_succ _) _⟩
end
section
open Go.RowKit
def ModPost (n : Int) (w : World) (e : Ending) (w' : World) : Prop := ∃ r : Nat, e = .returned (.int .i64 r) ∧ (r : Int) < n ∧ w = w'
set_option maxHeartbeats 400000 in
theorem mod_some (x n : Int) (w : World) (hx : -9223372036854775808 ≤ x) (hx2 : x ≤ 9223372036854775807) (hn : 1 ≤ n) (hn2 : n ≤ 1000000000) :
    Calls Tryz.prog 20 #[.int .i64 x, .int .i64 n] w (ModPost n w) := by
  have h1 : -n < x.tmod n ∧ x.tmod n < n := by
    have := Int.tmod_lt_of_pos x (show 0 < n by omega)
    have h2 := Int.lt_tmod_of_pos x (show 0 < n by omega)
    omega
  obtain ⟨h1, h2⟩ := h1
  have h3 : 0 ≤ x.tmod n + n := by omega
  have h4 : 0 ≤ (x.tmod n + n) % n := Int.emod_nonneg _ (by omega)
  have h5 : (x.tmod n + n) % n < n := Int.emod_lt_of_pos _ (by omega)
  have H4 := Lib.hid h4; clear h4
  have H5 := Lib.hid h5; clear h5
  have HX := Lib.hid hx; have HX2 := Lib.hid hx2
  have hw : wrap64 (x.tmod n) = x.tmod n := IntWalk.wrap64_in _ ⟨by omega, by omega⟩
  have hw2 : wrap64 (x.tmod n + n) = x.tmod n + n := IntWalk.wrap64_in _ ⟨by omega, by omega⟩
  clear hx hx2
  go_enter Tryz.func20, Tryz.ntmps20
  go_wp2
  go_ret
  exact ⟨((x.tmod n + n) % n).toNat, by rw [Int.toNat_of_nonneg H4.out]; simp, by rw [Int.toNat_of_nonneg H4.out]; exact H5.out, rfl⟩
end
section
set_option maxRecDepth 100000
open Go.RowKit
attribute [local go_sem] toList_mk mk_size
/-- block k holds the bytes l, which may be written -/
def BytesAt (w : World) (k : Nat) (l : List UInt8) : Prop := ∃ cs fr, w.heap[k]? = some (.cells cs 5 fr) ∧ l.length ≤ fr.1 ∧ ∀ i (h : i < l.length), cs[i]? = some (byteV l[i])
theorem BytesAt.below {w w' : World} {k : Nat} {l : List UInt8} (h : BytesAt w k l) (hb : Below w.heap.size w w') : BytesAt w' k l := by
  obtain ⟨cs, fr, h1, h2⟩ := h
  exact ⟨cs, fr, blk_below hb (lt_of_blk h1) h1, h2⟩
theorem BytesAt.cell {w : World} {k : Nat} {l : List UInt8} (h : BytesAt w k l) (i : Nat) (hi : i < l.length) : w.cell? ⟨k, i, none⟩ = some (byteV l[i]) ∧ w.frozen? ⟨k, i, none⟩ = false := by
  obtain ⟨cs, fr, h1, h2, h3⟩ := h
  refine ⟨by rw [cell_of_row _ _ _ _ _ _ h1]; exact h3 i hi, ?_⟩
  unfold World.frozen?
  simp only [h1]
  simp; omega
theorem BytesAt.set {w : World} {k : Nat} {l : List UInt8} (h : BytesAt w k l) (i : Nat) (x : UInt8) : BytesAt (w.setCell ⟨k, i, none⟩ (byteV x)) k (l.set i x) := by
  obtain ⟨cs, fr, h1, h2, h3⟩ := h
  refine ⟨_, fr, blk_set h1, by simpa using h2, fun j hj => ?_⟩
  have hj' : j < l.length := by simpa using hj
  have := h3 j hj'
  have hlt : j < cs.size := (Array.getElem?_eq_some_iff.1 this).1
  rw [Array.getElem?_setIfInBounds]
  by_cases e : i = j
  · subst e; rw [if_pos rfl, if_pos hlt]; simp
  · rw [if_neg e, this, List.getElem_set_ne e]
theorem bytes_conv (w : World) (l : List UInt8) : ∃ cap wN, (convert 9 55 (strV l)).run Tryz.prog w = .ok (.slice (some ⟨w.heap.size, 0, none⟩) l.length cap) wN ∧ BytesAt wN w.heap.size l ∧ Below w.heap.size w wN ∧ w.heap.size < wN.heap.size := by
  have h := run_bytes_of_string (P := Tryz.prog) w 9 55 5 ⟨l.toArray⟩ Tryz.underlying9 Tryz.underlying55 Tryz.underlying5
  refine ⟨_, _, h, ⟨_, _, blk_new rfl, ?_, ?_⟩, (Below.refl _ _).drew.alloc (Nat.le_refl _) _, by simp⟩
  · simp [bytesRow, ByteArray.size]
  · intro i hi
    unfold bytesRow
    rw [Array.getElem?_append_left (by simpa using hi)]
    simp [hi, byteV]
theorem bytes_back (w : World) (k : Nat) (l : List UInt8) (cap : Nat) (h : BytesAt w k l) : (convert 55 9 (.slice (some ⟨k, 0, none⟩) l.length cap)).run Tryz.prog w = .ok (strV l) w :=
  run_convert_bytes_back (P := Tryz.prog) w _ _ _ ⟨k, 0, none⟩ cap l Tryz.underlying55 Tryz.underlying5 Tryz.underlying9 (fun j hj => by
    rw [add_plain, Nat.zero_add]; exact (h.cell j hj).1)
end
section
def hexD : List UInt8 := [48, 49, 50, 51, 52, 53, 54, 55, 56, 57, 97, 98, 99, 100, 101, 102]
def digH (n : Nat) : UInt8 := hexD.getD n 48
/-- the value of a digit -/
def valH (c : UInt8) : Option Nat := if 48 ≤ c.toNat ∧ c.toNat ≤ 57 then some (c.toNat - 48) else if 97 ≤ c.toNat ∧ c.toNat ≤ 102 then some (c.toNat - 87) else none
theorem valH_dig (n : Nat) (h : n < 16) : valH (digH n) = some n := by
  have : ∀ k : Fin 16, valH (digH k) = some k.val := by decide
  exact this ⟨n, h⟩
theorem valH_lt {c : UInt8} {v : Nat} (h : valH c = some v) : v < 16 := by
  unfold valH at h
  split at h
  · cases h; omega
  · split at h
    · cases h; omega
    · cases h
/-- the last k digits, the highest first -/
def hexN : Nat → Nat → List UInt8
  | 0, _ => []
  | k + 1, n => hexN k (n / 16) ++ [digH (n % 16)]
theorem hexN_len (k : Nat) : ∀ n, (hexN k n).length = k := by
  induction k with
  | zero => intro n; rfl
  | succ k ih => intro n; rw [hexN, List.length_append, ih]; rfl
theorem hexN_get (k : Nat) : ∀ n i, i < k → (hexN k n)[i]? = some (digH (n / 16 ^ (k - 1 - i) % 16)) := by
  induction k with
  | zero => intro n i h; omega
  | succ k ih =>
    intro n i h
    rw [hexN]
    by_cases hi : i < k
    · rw [List.getElem?_append_left (by rw [hexN_len]; exact hi), ih _ _ hi, Nat.div_div_eq_div_mul, ← Nat.pow_succ']
      rw [show (k - 1 - i).succ = k + 1 - 1 - i by omega]
    · have : i = k := by omega
      subst this
      rw [List.getElem?_append_right (by rw [hexN_len]; exact Nat.le_refl _), hexN_len, Nat.sub_self, show i + 1 - 1 - i = 0 by omega, Nat.pow_zero, Nat.div_one]
      rfl
/-- read from digits: a value, and a digit more -/
def hexStep (a : Nat) (c : UInt8) : Nat := (a * 16 + (valH c).getD 0) % 18446744073709551616
theorem hexFold (k : Nat) : ∀ n, k ≤ 16 → (hexN k n).foldl hexStep 0 = n % 16 ^ k := by
  induction k with
  | zero => intro n _; simp [hexN, Nat.mod_one]
  | succ k ih =>
    intro n hk
    rw [hexN, List.foldl_append, ih _ (by omega)]
    show hexStep (n / 16 % 16 ^ k) (digH (n % 16)) = _
    unfold hexStep
    rw [valH_dig _ (Nat.mod_lt _ (by decide))]
    show (n / 16 % 16 ^ k * 16 + n % 16) % 18446744073709551616 = _
    have h1 : n / 16 % 16 ^ k < 16 ^ k := Nat.mod_lt _ (Nat.pow_pos (by decide))
    have h2 : 16 ^ (k + 1) = 16 ^ k * 16 := Nat.pow_succ 16 k
    have h3 : 16 ^ (k + 1) ≤ 16 ^ 16 := Nat.pow_le_pow_right (by decide) hk
    have h4 : (16 : Nat) ^ 16 = 18446744073709551616 := by decide
    have h5 : n % 16 < 16 := Nat.mod_lt _ (by decide)
    have h6 : n % 16 ^ (k + 1) = n / 16 % 16 ^ k * 16 + n % 16 := by
      rw [h2, Nat.mul_comm (16 ^ k) 16, Nat.mod_mul]
      omega
    rw [h6]
    exact Nat.mod_eq_of_lt (by omega)
theorem hexFold_word {n : Nat} (h : n < 18446744073709551616) : (hexN 16 n).foldl hexStep 0 = n := by
  rw [hexFold 16 n (Nat.le_refl _)]
  exact Nat.mod_eq_of_lt (by rw [show (16 : Nat) ^ 16 = 18446744073709551616 by decide]; exact h)
/-- digits laid into words: number i goes into word i / 16 -/
def layH (W : List Nat) (i : Nat) : List UInt8 → List Nat
  | [] => W
  | c :: l => layH (W.set (i / 16) (hexStep (W.getD (i / 16) 0) c)) (i + 1) l
theorem layH_append (l m : List UInt8) : ∀ (W : List Nat) (i : Nat), layH W i (l ++ m) = layH (layH W i l) (i + l.length) m := by
  induction l with
  | nil => intro W i; rfl
  | cons c l ih => intro W i; rw [List.cons_append, layH, layH, ih, List.length_cons, show i + 1 + l.length = i + (l.length + 1) by omega]
theorem layH_one (l : List UInt8) : ∀ (W : List Nat) (k j : Nat), k < W.length → j + l.length ≤ 16 → layH W (k * 16 + j) l = W.set k (l.foldl hexStep (W.getD k 0)) := by
  induction l with
  | nil =>
    intro W k j hk _
    rw [layH, List.foldl_nil]
    apply List.ext_getElem?
    intro t
    rw [List.getElem?_set]
    by_cases h : k = t
    · subst h; rw [if_pos rfl, if_pos hk, List.getD, List.getElem?_eq_getElem hk]; rfl
    · rw [if_neg h]
  | cons c l ih =>
    intro W k j hk hj
    rw [List.length_cons] at hj
    have hd : (k * 16 + j) / 16 = k := by omega
    rw [layH, hd, show k * 16 + j + 1 = k * 16 + (j + 1) by omega, ih _ k (j + 1) (by rw [List.length_set]; exact hk) (by omega), List.foldl_cons, List.set_set]
    congr 2
    rw [List.getD, List.getElem?_set_self hk]; rfl
/-- the digits of words lead back to them -/
theorem layH_words (N : List Nat) (hN : ∀ n ∈ N, n < 18446744073709551616) : ∀ (M : List Nat), layH (M ++ List.replicate N.length 0) (M.length * 16) (N.flatMap (hexN 16)) = M ++ N := by
  induction N with
  | nil => intro M; simp [layH]
  | cons n N ih =>
    intro M
    rw [List.flatMap_cons, layH_append, hexN_len]
    have hl : M.length < (M ++ List.replicate (n :: N).length 0).length := by simp
    have h1 := layH_one (hexN 16 n) (M ++ List.replicate (n :: N).length 0) M.length 0 hl (by rw [hexN_len]; omega)
    rw [Nat.add_zero] at h1
    have h0 : (M ++ List.replicate (n :: N).length 0).getD M.length 0 = 0 := by simp [List.getD]
    rw [h1, h0, hexFold_word (hN n List.mem_cons_self)]
    have h2 : (M ++ List.replicate (n :: N).length 0).set M.length n = (M ++ [n]) ++ List.replicate N.length 0 := by
      rw [List.set_append_right _ _ (Nat.le_refl _), Nat.sub_self, List.length_cons, List.replicate_succ, List.set_cons_zero]; simp
    rw [h2]
    have := ih (fun x hx => hN x (List.mem_cons_of_mem _ hx)) (M ++ [n])
    rw [show (M ++ [n]).length * 16 = M.length * 16 + 16 by simp; omega] at this
    rw [this]; simp
end
section
/-- the digits of an array -/
def hexB (b : BitsL) : List UInt8 := (b.words.map Int.toNat).flatMap (hexN 16)
def isHex (c : UInt8) : Bool := (valH c).isSome
/-- the array with a text -/
def parseB (t : List UInt8) : Option BitsL :=
  if rightB (4 * (t.length : Int)) = true then (if t.all isHex = true then some ⟨4 * (t.length : Int), (layH (List.replicate (t.length / 16) 0) 0 t).map fun n : Nat => (n : Int)⟩ else none) else none
theorem hexN_all (k : Nat) : ∀ n, (hexN k n).all isHex = true := by
  induction k with
  | zero => intro n; rfl
  | succ k ih =>
    intro n
    rw [hexN, List.all_append, ih, Bool.true_and, List.all_cons, List.all_nil, Bool.and_true]
    unfold isHex
    rw [valH_dig _ (Nat.mod_lt _ (by decide))]; rfl
theorem flat_all (N : List Nat) : (N.flatMap (hexN 16)).all isHex = true := by
  induction N with
  | nil => rfl
  | cons n N ih => rw [List.flatMap_cons, List.all_append, hexN_all, ih]; rfl
theorem flat16 (N : List Nat) : (N.flatMap (hexN 16)).length = N.length * 16 := by
  induction N with
  | nil => rfl
  | cons n N ih => rw [List.flatMap_cons, List.length_append, hexN_len, ih, List.length_cons]; omega
theorem hexB_len (b : BitsL) : (hexB b).length = b.words.length * 16 := by unfold hexB; rw [flat16, List.length_map]
/-- the text of a valid array leads back to it -/
theorem hexB_back (b : BitsL) (hv : validB b = true) (hw : ∀ w ∈ b.words, 0 ≤ w ∧ w < 18446744073709551616) : parseB (hexB b) = some b := by
  unfold validB at hv
  simp only [Bool.and_eq_true, beq_iff_eq] at hv
  obtain ⟨h1, h2⟩ := hv
  have h1' := h1
  unfold rightB at h1'
  simp only [Bool.and_eq_true, decide_eq_true_eq, beq_iff_eq] at h1'
  obtain ⟨⟨g1, g2⟩, g3⟩ := h1'
  have hl := hexB_len b
  have hlen : 4 * ((hexB b).length : Int) = b.len := by rw [hl]; omega
  unfold parseB
  rw [hlen, if_pos h1, if_pos (by unfold hexB; exact flat_all _)]
  have hd : (hexB b).length / 16 = (b.words.map Int.toNat).length := by rw [hl, List.length_map]; omega
  rw [hd]
  have hN : ∀ n ∈ b.words.map Int.toNat, n < 18446744073709551616 := by
    intro n hn
    obtain ⟨w, hw', rfl⟩ := List.mem_map.1 hn
    have := hw w hw'
    omega
  have := layH_words (b.words.map Int.toNat) hN []
  rw [List.nil_append, List.length_nil, Nat.zero_mul, List.nil_append] at this
  show some (BitsL.mk b.len ((layH _ 0 ((b.words.map Int.toNat).flatMap (hexN 16))).map fun n : Nat => (n : Int))) = _
  rw [this, List.map_map]
  have he : b.words.map ((fun n : Nat => (n : Int)) ∘ Int.toNat) = b.words := by
    conv => rhs; rw [← List.map_id b.words]
    refine List.map_congr_left fun w hw' => ?_
    have := hw w hw'
    show ((w.toNat : Nat) : Int) = w
    omega
  rw [he]
end
section
set_option maxRecDepth 100000
open Go.RowKit
attribute [local go_sem] toList_mk mk_size
@[local go_sem] theorem get_zeroP (c : UInt8) (l : List UInt8) (h : 0 < (⟨(c :: l).toArray⟩ : ByteArray).size) : (⟨(c :: l).toArray⟩ : ByteArray)[0]'h = c := rfl
end
section
set_option maxRecDepth 100000
open Go.RowKit
attribute [local go_sem] toList_mk mk_size
theorem hexD_get (n : Nat) (h : n < hexD.length) (h' : n < (⟨hexD.toArray⟩ : ByteArray).size) : (⟨hexD.toArray⟩ : ByteArray)[n]'h' = digH n := by
  show hexD.toArray[n] = _
  unfold digH
  rw [List.getElem_toArray, List.getD, List.getElem?_eq_getElem h]; rfl
theorem hexN_more {k n : Nat} (h : k < 16) : (hexN 16 n).take (k + 1) = (hexN 16 n).take k ++ [digH (n / 16 ^ (15 - k) % 16)] := by
  rw [List.take_add_one, hexN_get 16 n k h]; rfl
theorem valid_len {b : BitsL} (h : validB b = true) : b.words.length ≤ 8 := by
  unfold validB rightB at h
  simp only [Bool.and_eq_true, beq_iff_eq, decide_eq_true_eq] at h
  omega
theorem valid_in {b : BitsL} (h : validB b = true) : InI b.len := by
  unfold validB rightB at h
  simp only [Bool.and_eq_true, beq_iff_eq, decide_eq_true_eq] at h
  exact ⟨by omega, by omega⟩
theorem bits_range (op : BinOp) (x y : Int) : 0 ≤ bits op .u64 x y ∧ bits op .u64 x y < 18446744073709551616 := by
  unfold bits
  rw [IntKind.wrap_u64]
  constructor <;> omega
theorem and_15 (m : Nat) (h : m < 18446744073709551616) : bits .and .u64 (m : Int) 15 = ((m % 16 : Nat) : Int) := by
  unfold bits
  rw [IntKind.wrap_u64]
  have e1 : (BitVec.ofInt 64 (m : Int)).toNat = m := by rw [BitVec.toNat_ofInt]; simp; omega
  have e2 : (BitVec.ofInt 64 15).toNat = 15 := by decide
  have e3 : ((BitVec.ofInt 64 (m : Int)) &&& (BitVec.ofInt 64 15)).toNat = m % 16 := by
    rw [BitVec.toNat_and, e1, e2]
    exact Nat.and_two_pow_sub_one_eq_mod m 4
  show ((((BitVec.ofInt 64 (m : Int)) &&& (BitVec.ofInt 64 15)).toNat : Nat) : Int) % _ = _
  rw [e3]; omega
theorem nib_at (n k : Nat) (h : n < 18446744073709551616) (hk : k < 16) : bits .and .u64 ((n : Int) / 2 ^ (60 - 4 * k)) 15 = ((n / 16 ^ (15 - k) % 16 : Nat) : Int) := by
  have e : ((n : Int) / 2 ^ (60 - 4 * k)) = ((n / 2 ^ (60 - 4 * k) : Nat) : Int) := by simp
  rw [e, and_15 _ (Nat.lt_of_le_of_lt (Nat.div_le_self _ _) h)]
  have e2 : 2 ^ (60 - 4 * k) = 16 ^ (15 - k) := by
    rw [show 60 - 4 * k = 4 * (15 - k) by omega, Nat.pow_mul]
  rw [e2]
set_option maxHeartbeats 4000000 in
theorem hex_yes (S : Nat → Prop) (v : Value) (b : BitsL) (w : World) (h : BitsAt w S v b) (hv : validB b = true) (hw : ∀ x ∈ b.words, 0 ≤ x ∧ x < 18446744073709551616) :
    Calls Tryz.prog 51 #[v] w fun e w' => e = .returned (.tuple #[strV (hexB b), .int .i64 0]) ∧ Below w.heap.size w w' := by
  have hl8 := valid_len hv
  have hi := valid_in hv
  obtain ⟨c, rfl, hA⟩ := h.form
  obtain ⟨sv, esv, hvec⟩ := hA
  obtain ⟨bl, ba, bn, bc⟩ := c
  dsimp only [encBV] at esv ⊢
  have e0 : bl = b.len := by
    have := congrArg (fun v => match v with | Value.agg cs => cs.getD 0 undef | _ => undef) esv
    simpa using this
  have e1 : sv = .slice ba bn bc := by
    have := congrArg (fun v => match v with | Value.agg cs => cs.getD 1 undef | _ => undef) esv
    simpa using this.symm
  subst e0 e1
  have hn := hvec.len
  obtain ⟨hn1, hn2⟩ := hn
  subst hn1
  have HA := Lib.hid (show BitsAt w S (.agg #[.int .i64 b.len, .slice ba b.words.length bc]) b from ⟨_, rfl, hvec⟩)
  have HVc := Lib.hid hvec; have HV := Lib.hid hv; have HW := Lib.hid hw
  clear h hv hw esv hvec hn2
  go_enter Tryz.func51, Tryz.ntmps51
  go_wp2_with fail
  refine wp_calls_world (fun W hW => ?_)
  have hb0 : Below w.heap.size w W := by rw [hW]; exact (Below.refl w.heap.size w).alloc (Nat.le_refl _) _
  have hx0 : W.heap[w.heap.size]? = some (.cells #[.int .i64 b.len, .slice ba b.words.length bc] 84 (0, 0)) := by rw [hW]; exact blk_new rfl
  clear hW
  refine (bvalid_any S _ b _ (HA.out.below hb0) hi.1 hi.2).mono ?_
  rw [HV.out]
  rintro e w1 ⟨rfl, hb⟩
  have hx1 := blk_below hb (lt_of_blk hx0) hx0
  have HB1 := Lib.hid (hb0.trans (hb.mono hb0.size))
  obtain ⟨x0, x1⟩ := cells2K hx1
  clear hb hb0 hx0 hx1
  go_wp2_with fail
  go_loopw [4, 6, 7, 14] (fun v _ _ i wr => ∃ (j : Nat) (out : List UInt8), i = .int .i64 j ∧ j ≤ b.words.length ∧ OwnV 5 1 encB w v out wr ∧ out.length = 16 * j ∧ Hid (out ++ ((b.words.drop j).map Int.toNat).flatMap (hexN 16) = hexB b)) (fun _ _ _ i _ => b.words.length - (intOf i).toNat)
  case atStart => exact ⟨0, [], rfl, by omega, OwnV.nil HB1.out, rfl, Lib.hid rfl⟩
  case round =>
    obtain ⟨j, out, rfl, hj, ho, hol, HT⟩ := hrel
    by_cases hlt : j < b.words.length
    · have hq : decide ((j : Int) < b.words.length) = true := by simp; omega
      have hji : (j : Int) < (b.words.length : Int) := by omega
      obtain ⟨x, hx⟩ : ∃ x, b.words[j] = x := ⟨_, rfl⟩
      have hxr := HW.out x (by rw [← hx]; exact List.getElem_mem _)
      obtain ⟨n, rfl⟩ := Int.eq_ofNat_of_zero_le hxr.1
      have hn64 : n < 18446744073709551616 := by omega
      obtain ⟨bb, oo, rfl, lb, gc⟩ := (HVc.out.below ho.2).get j hlt
      have c0 := gc 0 _ rfl
      rw [Nat.mul_one, Nat.add_zero, hx] at c0
      have hT := HT.out
      rw [List.drop_eq_getElem_cons hlt, hx, List.map_cons, List.flatMap_cons, Int.toNat_natCast, ← List.append_assoc] at hT
      have HT2 := Lib.hid hT
      have HO := Lib.hid ho
      clear gc hT ho hx hxr HT x0 x1
      go_wp2_with fail
      go_loopw [4, 7] (fun v sh wr => ∃ k : Nat, k ≤ 16 ∧ sh = .int .i64 (60 - 4 * (k : Int)) ∧ OwnV 5 1 encB w v (out ++ (hexN 16 n).take k) wr) (fun _ sh _ => (intOf sh + 4).toNat)
      case atStart => exact ⟨0, by omega, rfl, by simpa using HO.out⟩
      case round =>
        obtain ⟨k, hk, rfl, ho⟩ := hrel
        by_cases hk16 : k < 16
        · have hq1 : decide ((0 : Int) ≤ 60 - 4 * (k : Int)) = true := by simp only [decide_eq_true_eq]; omega
          obtain ⟨d, hd⟩ : ∃ d, n / 16 ^ (15 - k) % 16 = d := ⟨_, rfl⟩
          have hd16 : d < 16 := by rw [← hd]; exact Nat.mod_lt _ (by decide)
          have hnib : bits .and .u64 ((n : Int) / 2 ^ (60 - 4 * k)) 15 = (d : Int) := by rw [nib_at n k hn64 hk16, hd]
          have hmore := hexN_more (n := n) hk16
          rw [hd] at hmore
          have hdl : d < hexD.length := hd16
          have hgd : ∀ h : d < (⟨#[48, 49, 50, 51, 52, 53, 54, 55, 56, 57, 97, 98, 99, 100, 101, 102]⟩ : ByteArray).size, (⟨#[48, 49, 50, 51, 52, 53, 54, 55, 56, 57, 97, 98, 99, 100, 101, 102]⟩ : ByteArray)[d]'h = digH d := fun h => hexD_get d hdl h
          have hcn : (out ++ (hexN 16 n).take k).length + ([digH d] : List UInt8).length ≤ 1000000000 := by simp; omega
          have HO1 := Lib.hid (ho.below ((Below.refl wr.heap.size wr).alloc (Nat.le_refl _) (.cells #[byteV (digH d)] 5)))
          have HR1 := Lib.hid (show Reads (wr.alloc (.cells #[byteV (digH d)] 5)) 1 (.slice (some ⟨wr.heap.size, 0, none⟩) 1 1) ([digH d] : List UInt8).length (([digH d] : List UInt8).flatMap encB) from reads_block (t := 5) (fr := (0, 0)) (blk_new rfl) rfl)
          have HMr := Lib.hid hmore
          obtain ⟨av, cv, rfl⟩ := own_slice ho.1
          clear hd hmore ho
          go_wp2_with (at_builtin; refine wpList_append_v rfl (.tmp 22) (.tmp 28) 55 rfl 5 (.int .u8 0) 1 1 encB (fun _ => rfl) one_encB Tryz.underlying55 infoBy rfl (by decide) (by decide) (w0 := w) (v := .slice av (out ++ (hexN 16 n).take k).length cv) (A := out ++ (hexN 16 n).take k) (B := [digH d]) rfl HO1.out rfl HR1.out hcn ?_; intro v2 w2 ho2 hk2 hz2)
          go_roundw
          case rel => exact ⟨k + 1, by omega, by congr 1; omega, by rw [HMr.out, ← List.append_assoc]; exact ho2⟩
          case measure => simp [intOf]; omega
        · obtain rfl : k = 16 := by omega
          have hq1 : decide ((0 : Int) ≤ 60 - 4 * ((16 : Nat) : Int)) = false := by decide
          rw [List.take_of_length_le (by rw [hexN_len]; omega)] at ho
          have HO1 := Lib.hid ho
          obtain ⟨av, cv, rfl⟩ := own_slice ho.1
          clear ho
          go_wp2_with fail
          go_roundw
          case rel => exact ⟨j + 1, out ++ hexN 16 n, by go_num, by omega, HO1.out, by rw [List.length_append, hexN_len]; omega, HT2⟩
          case measure => simp [intOf]; omega
    · have hq : decide ((j : Int) < b.words.length) = false := by simp; omega
      obtain rfl : j = b.words.length := by omega
      have hT := HT.out
      rw [List.drop_length, List.map_nil, List.flatMap_nil, List.append_nil] at hT
      subst hT
      obtain ⟨av, cv, rfl⟩ := own_slice ho.1
      have HOw := Lib.hid ho
      have hown := ho.1
      rw [flatB] at hown
      have hconv := run_convert_owned (P := Tryz.prog) (hexB b) hown Tryz.underlying55 Tryz.underlying5 Tryz.underlying9
      clear ho hown hol
      go_wp2_with fail
      go_ret2
      exact ⟨rfl, HOw.out.2⟩
end
end Go.Proofs.YtoeplomdcannlaaGreatDoor
section
namespace Go.Proofs
open Go.Shelf
def Tryz.laysM171_ren : Go.Shelf.Ren := ⟨fun | 171 => 50 | 243 => 97 | 246 => 142 | 283 => 189 | 284 => 190 | 285 => 191 | 286 => 192 | 129 => 241 | 317 => 240 | 318 => 242 | 319 => 243 | 320 => 244 | 337 => 272 | 338 => 273 | n => n, fun | 3 => 3 | 9 => 9 | 2 => 2 | 4 => 4 | 171 => 214 | 0 => 0 | 53 => 43 | 37 => 55 | 5 => 5 | 173 => 217 | 212 => 253 | 51 => 245 | 20 => 20 | 213 => 254 | 46 => 92 | 232 => 287 | 233 => 288 | n => n, fun | 17 => 3 | 18 => 6 | 19 => 7 | n => n⟩
theorem Tryz.laysM171 : Go.Proofs.LaysM.n171 Tryz.prog Tryz.laysM171_ren := {
  mixed := by kernel_rfl
  f129 := Tryz.func241.trans (congrArg some (by kernel_rfl))
  f171 := Tryz.func50.trans (congrArg some (by kernel_rfl))
  f243 := Tryz.func97.trans (congrArg some (by kernel_rfl))
  f246 := Tryz.func142.trans (congrArg some (by kernel_rfl))
  f283 := Tryz.func189.trans (congrArg some (by kernel_rfl))
  f284 := Tryz.func190.trans (congrArg some (by kernel_rfl))
  f285 := Tryz.func191.trans (congrArg some (by kernel_rfl))
  f286 := Tryz.func192.trans (congrArg some (by kernel_rfl))
  f317 := Tryz.func240.trans (congrArg some (by kernel_rfl))
  f318 := Tryz.func242.trans (congrArg some (by kernel_rfl))
  f319 := Tryz.func243.trans (congrArg some (by kernel_rfl))
  f320 := Tryz.func244.trans (congrArg some (by kernel_rfl))
  f337 := Tryz.func272.trans (congrArg some (by kernel_rfl))
  f338 := Tryz.func273.trans (congrArg some (by kernel_rfl))
  t0 := Tryz.underlying0
  a0 := Tryz.isAgg0
  z0 := Tryz.sizeOf0
  v0 := Tryz.zeroValue0
  t2 := Tryz.underlying2
  a2 := Tryz.isAgg2
  z2 := Tryz.sizeOf2
  v2 := Tryz.zeroValue2
  t3 := Tryz.underlying3
  a3 := Tryz.isAgg3
  z3 := Tryz.sizeOf3
  v3 := Tryz.zeroValue3
  t4 := Tryz.underlying4
  a4 := Tryz.isAgg4
  z4 := Tryz.sizeOf4
  v4 := Tryz.zeroValue4
  t5 := Tryz.underlying5
  a5 := Tryz.isAgg5
  z5 := Tryz.sizeOf5
  v5 := Tryz.zeroValue5
  t9 := Tryz.underlying9
  a9 := Tryz.isAgg9
  z9 := Tryz.sizeOf9
  v9 := Tryz.zeroValue9
  t20 := Tryz.underlying20
  a20 := Tryz.isAgg20
  z20 := Tryz.sizeOf20
  v20 := Tryz.zeroValue20
  t37 := Tryz.underlying55
  a37 := Tryz.isAgg55
  z37 := Tryz.sizeOf55
  v37 := Tryz.zeroValue55
  t46 := Tryz.underlying92
  a46 := Tryz.isAgg92
  z46 := Tryz.sizeOf92
  v46 := Tryz.zeroValue92
  t51 := Tryz.underlying245
  a51 := Tryz.isAgg245
  z51 := Tryz.sizeOf245
  v51 := Tryz.zeroValue245
  t53 := Tryz.underlying43
  a53 := Tryz.isAgg43
  z53 := Tryz.sizeOf43
  v53 := Tryz.zeroValue43
  t171 := Tryz.underlying214
  a171 := Tryz.isAgg214
  z171 := Tryz.sizeOf214
  v171 := Tryz.zeroValue214
  t173 := Tryz.underlying217
  a173 := Tryz.isAgg217
  z173 := Tryz.sizeOf217
  v173 := Tryz.zeroValue217
  t212 := Tryz.underlying253
  a212 := Tryz.isAgg253
  z212 := Tryz.sizeOf253
  v212 := Tryz.zeroValue253
  t213 := Tryz.underlying254
  a213 := Tryz.isAgg254
  z213 := Tryz.sizeOf254
  t232 := Tryz.underlying287
  a232 := Tryz.isAgg287
  z232 := Tryz.sizeOf287
  v232 := Tryz.zeroValue287
  t233 := Tryz.underlying288
  a233 := Tryz.isAgg288
  z233 := Tryz.sizeOf288
  v233 := Tryz.zeroValue288
  g17 := by kernel_rfl
  g18 := by kernel_rfl
  g19 := by kernel_rfl
  i0 := by kernel_rfl
  i2 := by kernel_rfl
  i3 := by kernel_rfl
  i4 := by kernel_rfl
  i5 := by kernel_rfl
  i9 := by kernel_rfl
  i20 := by kernel_rfl
  i37 := by kernel_rfl
  i46 := by kernel_rfl
  i51 := by kernel_rfl
  i53 := by kernel_rfl
  i171 := by kernel_rfl
  i173 := by kernel_rfl
  i212 := by kernel_rfl
  i232 := by kernel_rfl
  i233 := by kernel_rfl
  m17 := by kernel_rfl
  m18 := by kernel_rfl
  m19 := by kernel_rfl }
open Go.RowKit Go.Sort Go.Lib in
/-- strconv.Itoa: "Itoa is equivalent to FormatInt(int64(i), 10).": i's DECIMAL NUMERAL ('Lib.itoa': a '-' where i is negative, then the digits), FOR EVERY int. The world behind the call: the world before it, new blocks behind the heap (the library's 'var a [24]byte'), draws. (LAID: no walk: one application.) -/
theorem Tryz.strconv_Itoa (n : Int) (h0 : -9223372036854775808 ≤ n) (h1 : n ≤ 9223372036854775807) (w : World) (htab : Lib.TabIs Tryz.prog w "internal/strconv.uint64pow10" .u64 Lib.pow10Tab) :
    Calls Tryz.prog 50 #[.int .i64 n] w fun e w' => e = .returned (.string ⟨(Lib.itoa n).toArray⟩) ∧ ∃ k os, w' = grow (w.drewN k) os := Any.strconv_Itoa Tryz.laysM171 n h0 h1 w htab
def Tryz.laysC172_ren : Go.Shelf.Ren := ⟨fun | 172 => 54 | 244 => 100 | 245 => 101 | 247 => 147 | 279 => 148 | 280 => 149 | 281 => 150 | 282 => 151 | 287 => 198 | 316 => 199 | 171 => 50 | 205 => 200 | 321 => 250 | 322 => 251 | 243 => 97 | 246 => 142 | 283 => 189 | 284 => 190 | 285 => 191 | 286 => 192 | 129 => 241 | 317 => 240 | 318 => 242 | 319 => 243 | 320 => 244 | 337 => 272 | 338 => 273 | n => n, fun | 9 => 9 | 3 => 3 | 75 => 97 | 76 => 98 | 4 => 4 | 5 => 5 | 167 => 182 | 37 => 55 | 0 => 0 | 85 => 183 | 2 => 2 | 168 => 185 | 53 => 43 | 175 => 223 | 46 => 92 | 210 => 226 | 127 => 161 | 145 => 259 | 143 => 257 | 21 => 21 | 171 => 214 | 173 => 217 | 212 => 253 | 51 => 245 | 20 => 20 | 213 => 254 | 232 => 287 | 233 => 288 | 80 => 121 | n => n, fun | 15 => 0 | 16 => 1 | 17 => 3 | 18 => 6 | 19 => 7 | n => n⟩
theorem Tryz.laysC172 : Go.Proofs.LaysC.n172 Tryz.prog Tryz.laysC172_ren := {
  mixed := by kernel_rfl
  f129 := Tryz.func241.trans (congrArg some (by kernel_rfl))
  f171 := Tryz.func50.trans (congrArg some (by kernel_rfl))
  f172 := Tryz.func54.trans (congrArg some (by kernel_rfl))
  f205 := Tryz.func200.trans (congrArg some (by kernel_rfl))
  f243 := Tryz.func97.trans (congrArg some (by kernel_rfl))
  f244 := Tryz.func100.trans (congrArg some (by kernel_rfl))
  f245 := Tryz.func101.trans (congrArg some (by kernel_rfl))
  f246 := Tryz.func142.trans (congrArg some (by kernel_rfl))
  f247 := Tryz.func147.trans (congrArg some (by kernel_rfl))
  f279 := Tryz.func148.trans (congrArg some (by kernel_rfl))
  f280 := Tryz.func149.trans (congrArg some (by kernel_rfl))
  f281 := Tryz.func150.trans (congrArg some (by kernel_rfl))
  f282 := Tryz.func151.trans (congrArg some (by kernel_rfl))
  f283 := Tryz.func189.trans (congrArg some (by kernel_rfl))
  f284 := Tryz.func190.trans (congrArg some (by kernel_rfl))
  f285 := Tryz.func191.trans (congrArg some (by kernel_rfl))
  f286 := Tryz.func192.trans (congrArg some (by kernel_rfl))
  f287 := Tryz.func198.trans (congrArg some (by kernel_rfl))
  f316 := Tryz.func199.trans (congrArg some (by kernel_rfl))
  f317 := Tryz.func240.trans (congrArg some (by kernel_rfl))
  f318 := Tryz.func242.trans (congrArg some (by kernel_rfl))
  f319 := Tryz.func243.trans (congrArg some (by kernel_rfl))
  f320 := Tryz.func244.trans (congrArg some (by kernel_rfl))
  f321 := Tryz.func250.trans (congrArg some (by kernel_rfl))
  f322 := Tryz.func251.trans (congrArg some (by kernel_rfl))
  f337 := Tryz.func272.trans (congrArg some (by kernel_rfl))
  f338 := Tryz.func273.trans (congrArg some (by kernel_rfl))
  t0 := Tryz.underlying0
  a0 := Tryz.isAgg0
  z0 := Tryz.sizeOf0
  v0 := Tryz.zeroValue0
  t2 := Tryz.underlying2
  a2 := Tryz.isAgg2
  z2 := Tryz.sizeOf2
  v2 := Tryz.zeroValue2
  t3 := Tryz.underlying3
  a3 := Tryz.isAgg3
  z3 := Tryz.sizeOf3
  v3 := Tryz.zeroValue3
  t4 := Tryz.underlying4
  a4 := Tryz.isAgg4
  z4 := Tryz.sizeOf4
  v4 := Tryz.zeroValue4
  t5 := Tryz.underlying5
  a5 := Tryz.isAgg5
  z5 := Tryz.sizeOf5
  v5 := Tryz.zeroValue5
  t9 := Tryz.underlying9
  a9 := Tryz.isAgg9
  z9 := Tryz.sizeOf9
  v9 := Tryz.zeroValue9
  t20 := Tryz.underlying20
  a20 := Tryz.isAgg20
  z20 := Tryz.sizeOf20
  v20 := Tryz.zeroValue20
  t21 := Tryz.underlying21
  a21 := Tryz.isAgg21
  z21 := Tryz.sizeOf21
  v21 := Tryz.zeroValue21
  t37 := Tryz.underlying55
  a37 := Tryz.isAgg55
  z37 := Tryz.sizeOf55
  v37 := Tryz.zeroValue55
  t46 := Tryz.underlying92
  a46 := Tryz.isAgg92
  z46 := Tryz.sizeOf92
  v46 := Tryz.zeroValue92
  t51 := Tryz.underlying245
  a51 := Tryz.isAgg245
  z51 := Tryz.sizeOf245
  v51 := Tryz.zeroValue245
  t53 := Tryz.underlying43
  a53 := Tryz.isAgg43
  z53 := Tryz.sizeOf43
  v53 := Tryz.zeroValue43
  t75 := Tryz.underlying97
  a75 := Tryz.isAgg97
  z75 := Tryz.sizeOf97
  v75 := Tryz.zeroValue97
  t76 := Tryz.underlying98
  a76 := Tryz.isAgg98
  z76 := Tryz.sizeOf98
  v76 := Tryz.zeroValue98
  t85 := Tryz.underlying183
  a85 := Tryz.isAgg183
  z85 := Tryz.sizeOf183
  v85 := Tryz.zeroValue183
  t127 := Tryz.underlying161
  a127 := Tryz.isAgg161
  z127 := Tryz.sizeOf161
  v127 := Tryz.zeroValue161
  t143 := Tryz.underlying257
  a143 := Tryz.isAgg257
  z143 := Tryz.sizeOf257
  v143 := Tryz.zeroValue257
  t145 := Tryz.underlying259
  a145 := Tryz.isAgg259
  z145 := Tryz.sizeOf259
  v145 := Tryz.zeroValue259
  t167 := Tryz.underlying182
  a167 := Tryz.isAgg182
  z167 := Tryz.sizeOf182
  v167 := Tryz.zeroValue182
  t168 := Tryz.underlying185
  a168 := Tryz.isAgg185
  z168 := Tryz.sizeOf185
  v168 := Tryz.zeroValue185
  t171 := Tryz.underlying214
  a171 := Tryz.isAgg214
  z171 := Tryz.sizeOf214
  v171 := Tryz.zeroValue214
  t173 := Tryz.underlying217
  a173 := Tryz.isAgg217
  z173 := Tryz.sizeOf217
  v173 := Tryz.zeroValue217
  t175 := Tryz.underlying223
  a175 := Tryz.isAgg223
  z175 := Tryz.sizeOf223
  v175 := Tryz.zeroValue223
  t210 := Tryz.underlying226
  a210 := Tryz.isAgg226
  z210 := Tryz.sizeOf226
  v210 := Tryz.zeroValue226
  t212 := Tryz.underlying253
  a212 := Tryz.isAgg253
  z212 := Tryz.sizeOf253
  v212 := Tryz.zeroValue253
  t213 := Tryz.underlying254
  a213 := Tryz.isAgg254
  z213 := Tryz.sizeOf254
  t232 := Tryz.underlying287
  a232 := Tryz.isAgg287
  z232 := Tryz.sizeOf287
  v232 := Tryz.zeroValue287
  t233 := Tryz.underlying288
  a233 := Tryz.isAgg288
  z233 := Tryz.sizeOf288
  v233 := Tryz.zeroValue288
  g15 := by kernel_rfl
  g16 := by kernel_rfl
  g17 := by kernel_rfl
  g18 := by kernel_rfl
  g19 := by kernel_rfl
  t80 := Tryz.underlying121
  a80 := Tryz.isAgg121
  z80 := Tryz.sizeOf121
  v80 := Tryz.zeroValue121
  i0 := by kernel_rfl
  i2 := by kernel_rfl
  i3 := by kernel_rfl
  i4 := by kernel_rfl
  i5 := by kernel_rfl
  i9 := by kernel_rfl
  i20 := by kernel_rfl
  i21 := by kernel_rfl
  i37 := by kernel_rfl
  i46 := by kernel_rfl
  i51 := by kernel_rfl
  i53 := by kernel_rfl
  i75 := by kernel_rfl
  i76 := by kernel_rfl
  i80 := by kernel_rfl
  i85 := by kernel_rfl
  i127 := by kernel_rfl
  i143 := by kernel_rfl
  i145 := by kernel_rfl
  i167 := by kernel_rfl
  i168 := by kernel_rfl
  i171 := by kernel_rfl
  i173 := by kernel_rfl
  i175 := by kernel_rfl
  i210 := by kernel_rfl
  i212 := by kernel_rfl
  i232 := by kernel_rfl
  i233 := by kernel_rfl
  m15 := by kernel_rfl
  m16 := by kernel_rfl
  m17 := by kernel_rfl
  m18 := by kernel_rfl
  m19 := by kernel_rfl
  c0 := by kernel_rfl
  c2 := by kernel_rfl
  c3 := by kernel_rfl
  c4 := by kernel_rfl
  c5 := by kernel_rfl
  c9 := by kernel_rfl
  c20 := by kernel_rfl
  c21 := by kernel_rfl
  c37 := by kernel_rfl
  c46 := by kernel_rfl
  c51 := by kernel_rfl
  c53 := by kernel_rfl
  c75 := by kernel_rfl
  c76 := by kernel_rfl
  c80 := by kernel_rfl
  c85 := by kernel_rfl
  c127 := by kernel_rfl
  c143 := by kernel_rfl
  c145 := by kernel_rfl
  c167 := by kernel_rfl
  c168 := by kernel_rfl
  c171 := by kernel_rfl
  c173 := by kernel_rfl
  c175 := by kernel_rfl
  c210 := by kernel_rfl
  c212 := by kernel_rfl
  c213 := by kernel_rfl
  c232 := by kernel_rfl
  c233 := by kernel_rfl }
open Go.RowKit in
/-- strconv.Atoi, AT EVERY STRING THAT SPELLS AN int ('Lib.atoiAll .. = .ok v'; of whatever length: leading zeros count): v, AND NO ERROR. The world: as it was, or with the one new row that '[]byte(..)' lays. (LAID: no walk: one application.) -/
theorem Tryz.strconv_Atoi_ok (s : ByteArray) (hmax : s.size ≤ 9223372036854775806) (v : Int) (h : Lib.atoiAll s.data.toList = .ok v) (w : World) :
    Calls Tryz.prog 54 #[.string s] w fun e w' => e = .returned (.tuple #[.int .i64 v, .nilIface]) ∧ (w' = w ∨ ∃ t, w' = Lib.bytesWorld w 5 t) := Any.strconv_Atoi_ok Tryz.laysC172 s hmax v h w
open Go.RowKit in
/-- strconv.Atoi, AT EVERY STRING THAT IS NO DECIMAL NUMERAL ('.syntax'): 0, AND AN ERROR THAT IS NOT nil: a *NumError in a new block N: {Func: "Atoi", Num: s's bytes, Err: what the variable ErrSyntax holds}. Of what was there nothing has turned. (LAID: no walk: one application.) -/
theorem Tryz.strconv_Atoi_syntax (s : ByteArray) (hlim : s.size ≤ 281474976710656) (h : Lib.atoiAll s.data.toList = .«syntax») (ev : Value) (w : World) (hv : w.cell? ⟨0, 0, none⟩ = some ev) (hev : ev = .nilIface ∨ ∃ te pe, ev = .iface te pe) :
    Calls Tryz.prog 54 #[.string s] w fun e w' => ∃ N, e = .returned (.tuple #[.int .i64 (0), .iface 185 (.pointer (some ⟨N, 0, none⟩))]) ∧ w.heap.size ≤ N ∧ w'.heap[N]? = some (.cells #[.string ⟨#[65, 116, 111, 105]⟩, .string s, ev] 226 (0, 0)) ∧ Below w.heap.size w w' := Any.strconv_Atoi_syntax Tryz.laysC172 s hlim h ev w hv hev
open Go.RowKit in
/-- strconv.Atoi, AT EVERY NUMERAL THAT NO int HOLDS ('.range'): THE GREATEST OR THE LEAST int, BY THE SIGN ('Lib.atoiSat'), AND AN ERROR THAT IS NOT nil: a *NumError in a new block N: {Func: "Atoi", Num: s's bytes, Err: what the variable ErrRange holds}. Of what was there nothing has turned. (LAID: no walk: one application.) -/
theorem Tryz.strconv_Atoi_range (s : ByteArray) (hlim : s.size ≤ 281474976710656) (h : Lib.atoiAll s.data.toList = .range) (ev : Value) (w : World) (hv : w.cell? ⟨1, 0, none⟩ = some ev) (hev : ev = .nilIface ∨ ∃ te pe, ev = .iface te pe) :
    Calls Tryz.prog 54 #[.string s] w fun e w' => ∃ N, e = .returned (.tuple #[.int .i64 (Lib.atoiSat s.data.toList), .iface 185 (.pointer (some ⟨N, 0, none⟩))]) ∧ w.heap.size ≤ N ∧ w'.heap[N]? = some (.cells #[.string ⟨#[65, 116, 111, 105]⟩, .string s, ev] 226 (0, 0)) ∧ Below w.heap.size w w' := Any.strconv_Atoi_range Tryz.laysC172 s hlim h ev w hv hev
end Go.Proofs
end
namespace Go.Proofs.YtoeplomdcannlaaGreatDoor
section
/-- the parts of a text between single bytes c; p is the part that has begun -/
def splC (c : UInt8) : List UInt8 → List UInt8 → List (List UInt8)
  | p, [] => [p]
  | p, x :: r => if x == c then p :: splC c [] r else splC c (p ++ [x]) r
theorem splC_run (c : UInt8) (t : List UInt8) (h : c ∉ t) : ∀ p r, splC c p (t ++ r) = splC c (p ++ t) r := by
  induction t with
  | nil => intro p r; simp
  | cons x t ih =>
    intro p r
    have hx : (x == c) = false := by
      have : c ≠ x := fun e => h (by simp [e])
      simpa using fun e => this e.symm
    rw [List.cons_append, splC, hx, if_neg (by simp), ih (fun hb => h (List.mem_cons_of_mem _ hb)), List.append_assoc]
    rfl
theorem splC_no (c : UInt8) (t : List UInt8) (h : c ∉ t) (p : List UInt8) : splC c p t = [p ++ t] := by
  have := splC_run c t h p []
  rw [List.append_nil] at this
  rw [this]; rfl
theorem splC_at (c : UInt8) (a b : List UInt8) (h : c ∉ a) (p : List UInt8) : splC c p (a ++ c :: b) = (p ++ a) :: splC c [] b := by
  rw [splC_run c a h]; simp [splC]
/-- where c stands first -/
theorem byte_cases (c : UInt8) (l : List UInt8) : c ∉ l ∨ ∃ a b, l = a ++ c :: b ∧ c ∉ a := by
  by_cases h : c ∈ l
  · right
    induction l with
    | nil => simp at h
    | cons x l ih =>
      by_cases e : x = c
      · exact ⟨[], l, by rw [e]; rfl, by simp⟩
      · have h' : c ∈ l := by
          rcases List.mem_cons.1 h with h1 | h1
          · exact absurd h1.symm e
          · exact h1
        obtain ⟨a, b, e1, e2⟩ := ih h'
        exact ⟨x :: a, b, by rw [e1]; rfl, by
          intro hm
          rcases List.mem_cons.1 hm with h1 | h1
          · exact e h1.symm
          · exact e2 h1⟩
  · exact .inl h
theorem index_not (c : UInt8) (l : List UInt8) (h : c ∉ l) : Lib.index l [c] = -1 := by
  induction l with
  | nil => rfl
  | cons x l ih =>
    have hx : c ≠ x := fun e => h (by simp [e])
    have h1 := ih fun hb => h (List.mem_cons_of_mem _ hb)
    unfold Lib.index
    rw [if_neg (by simp [List.isPrefixOf, hx]), if_pos (by rw [h1]; rfl)]
theorem index_at (c : UInt8) (a b : List UInt8) (h : c ∉ a) : Lib.index (a ++ c :: b) [c] = a.length := by
  induction a with
  | nil => simp [Lib.index, List.isPrefixOf]
  | cons x a ih =>
    have hx : c ≠ x := fun e => h (by simp [e])
    have h1 := ih fun hb => h (List.mem_cons_of_mem _ hb)
    rw [List.cons_append]
    unfold Lib.index
    rw [if_neg (by simp [List.isPrefixOf, hx]), h1, if_neg (by simp)]
    simp
theorem count_not (c : UInt8) (l : List UInt8) (h : c ∉ l) (f : Nat) : Lib.countFrom [c] f l = 0 := by
  cases f with
  | zero => rfl
  | succ f => unfold Lib.countFrom; rw [index_not c l h]; rfl
theorem count_at (c : UInt8) (a b : List UInt8) (h : c ∉ a) (f : Nat) : Lib.countFrom [c] (f + 1) (a ++ c :: b) = 1 + Lib.countFrom [c] f b := by
  rw [Lib.countFrom, index_at c a b h, if_neg (by simp)]
  congr 2
  simp
theorem splitK_spl (c : UInt8) : ∀ (n : Nat) (l : List UInt8), l.length ≤ n → ∀ f, l.length < f → Lib.splitK [c] 0 (Lib.countFrom [c] f l) l = splC c [] l ∧ Lib.countFrom [c] f l + 1 = (splC c [] l).length := by
  intro n
  induction n with
  | zero =>
    intro l hl f hf
    have : l = [] := List.length_eq_zero_iff.1 (by omega)
    subst this
    rw [count_not c [] (by simp)]
    exact ⟨rfl, rfl⟩
  | succ n ih =>
    intro l hl f hf
    rcases byte_cases c l with h | ⟨a, b, rfl, h⟩
    · rw [count_not c l h, splC_no c l h]
      exact ⟨rfl, rfl⟩
    · obtain ⟨g, rfl⟩ : ∃ g, f = g + 1 := ⟨f - 1, by omega⟩
      rw [List.length_append, List.length_cons] at hl hf
      obtain ⟨h1, h2⟩ := ih b (by omega) g (by omega)
      rw [count_at c a b h, splC_at c a b h, show 1 + Lib.countFrom [c] g b = Lib.countFrom [c] g b + 1 by omega]
      refine ⟨?_, by rw [List.length_cons, ← h2]⟩
      rw [Lib.splitK, index_at c a b h, if_neg (by simp)]
      rw [show (a ++ c :: b).take (((a.length : Int)).toNat + 0) = a by simp]
      rw [show (a ++ c :: b).drop (((a.length : Int)).toNat + [c].length) = b by simp]
      rw [h1]; rfl
end
section
set_option maxRecDepth 100000
open Go.RowKit
attribute [local go_sem] toList_mk mk_size
/-- the library's variable internal/bytealg.MaxLen holds some number -/
def MaxAt (w : World) : Prop := ∃ m : Int, w.cell? ⟨Tryz.laysM145_ren.g 1, 0, none⟩ = some (.int .i64 m)
theorem MaxAt.lt {w : World} (h : MaxAt w) : Tryz.laysM145_ren.g 1 < w.heap.size := by
  obtain ⟨m, hm⟩ := h; exact World.block_lt_of_cell? _ ⟨_, 0, none⟩ hm
theorem MaxAt.below {w w' : World} {B : Nat} (h : MaxAt w) (hb : Below B w w') (hB : Tryz.laysM145_ren.g 1 < B) : MaxAt w' := by
  obtain ⟨m, hm⟩ := h
  exact ⟨m, (hb.cell (p := ⟨_, 0, none⟩) hB).trans hm⟩
theorem MaxAt.old {w w' : World} (h : MaxAt w) (hb : Below w.heap.size w w') : MaxAt w' := h.below hb h.lt
theorem split_any (c : UInt8) (l : List UInt8) (w : World) (hm : MaxAt w) (hl : l.length ≤ 4294967200) :
    Calls Tryz.prog 53 #[strV l, strV [c]] w fun e w' => e = .returned (.slice (some ⟨w.heap.size, 0, none⟩) (splC c [] l).length (splC c [] l).length) ∧ RowB w' w.heap.size (splC c [] l) ∧ Below w.heap.size w w' := by
  obtain ⟨m, hm⟩ := hm
  have h := Any.strings_Split { Tryz.laysM146 with } Tryz.laysM146.i9 ⟨l.toArray⟩ ⟨#[c]⟩ m w (by rw [mk_size]; omega) hm (by simp [ByteArray.size])
  obtain ⟨k1, k2⟩ := splitK_spl c l.length l (Nat.le_refl _) (l.length + 1) (by omega)
  have hd := Lib.splitB_data ⟨#[c]⟩ 0 (Lib.countB ⟨l.toArray⟩ ⟨#[c]⟩) ⟨l.toArray⟩
  have hc : Lib.countB ⟨l.toArray⟩ ⟨#[c]⟩ = Lib.countFrom [c] (l.length + 1) l := by unfold Lib.countB Lib.count; rfl
  have hd2 : (Lib.splitB ⟨#[c]⟩ 0 (Lib.countB ⟨l.toArray⟩ ⟨#[c]⟩) ⟨l.toArray⟩).map (·.data.toList) = splC c [] l := by
    rw [hd, hc]; exact k1
  have hv : (Lib.splitB ⟨#[c]⟩ 0 (Lib.countB ⟨l.toArray⟩ ⟨#[c]⟩) ⟨l.toArray⟩).map Value.string = (splC c [] l).flatMap encS := by
    rw [← hd2]
    induction Lib.splitB ⟨#[c]⟩ 0 (Lib.countB ⟨l.toArray⟩ ⟨#[c]⟩) ⟨l.toArray⟩ with
    | nil => rfl
    | cons x L ih => rw [List.map_cons, List.map_cons, List.flatMap_cons, ih]; rfl
  refine h.mono ?_
  rintro e w' ⟨rfl, rfl⟩
  rw [hv, hc, k2]
  exact ⟨rfl, blk_new rfl, (Below.refl _ _).alloc (Nat.le_refl _) _⟩
end
section
theorem dec_digit {c : UInt8} {n : Nat} (h : c ∈ Lib.decDigits n) : 48 ≤ c.toNat ∧ c.toNat ≤ 57 := by
  induction n using Nat.strongRecOn with
  | _ n ih =>
    rw [Lib.decDigits] at h
    split at h
    · next hlt =>
      simp only [List.mem_singleton] at h
      subst h
      rw [UInt8.toNat_ofNat']; omega
    · next hge =>
      rcases List.mem_append.1 h with h1 | h1
      · exact ih (n / 10) (by omega) h1
      · simp only [List.mem_singleton] at h1
        subst h1
        rw [UInt8.toNat_ofNat']; omega
theorem dec_ne (n : Nat) : Lib.decDigits n ≠ [] := by
  intro h
  have := Lib.decDigits_length n
  rw [h] at this
  have h1 := Lib.nDigits_pos n
  simp at this; omega
theorem decFrom_append (l m : List UInt8) : ∀ acc, Lib.decFrom acc (l ++ m) = match Lib.decFrom acc l with | some a => Lib.decFrom a m | none => none := by
  induction l with
  | nil => intro acc; rfl
  | cons c l ih =>
    intro acc
    rw [List.cons_append, Lib.decFrom, Lib.decFrom]
    cases Lib.digitVal c with
    | none => rfl
    | some d => exact ih _
theorem dval (d : Nat) (h : d < 10) : Lib.digitVal (UInt8.ofNat (48 + d)) = some d := by
  have : ∀ k : Fin 10, Lib.digitVal (UInt8.ofNat (48 + k.val)) = some k.val := by decide
  exact this ⟨d, h⟩
/-- a numeral's value -/
theorem decFrom_digits (n : Nat) : Lib.decFrom 0 (Lib.decDigits n) = some n := by
  induction n using Nat.strongRecOn with
  | _ n ih =>
    rw [Lib.decDigits]
    split
    · next hlt =>
      rw [Lib.decFrom, dval n hlt]
      show Lib.decFrom (0 * 10 + n) [] = _
      rw [Lib.decFrom]; simp
    · next hge =>
      rw [decFrom_append, ih (n / 10) (by omega)]
      show Lib.decFrom (n / 10) [UInt8.ofNat (48 + n % 10)] = _
      rw [Lib.decFrom, dval (n % 10) (Nat.mod_lt _ (by decide))]
      show Lib.decFrom (n / 10 * 10 + n % 10) [] = _
      rw [Lib.decFrom]
      congr 1; omega
theorem atoi_digits (n : Nat) : Lib.atoi (Lib.decDigits n) = some (n : Int) := by
  cases h : Lib.decDigits n with
  | nil => exact absurd h (dec_ne n)
  | cons b r =>
    have hb := dec_digit (c := b) (n := n) (by rw [h]; exact List.mem_cons_self)
    have h1 : (b == 45) = false := by
      rw [beq_eq_false_iff_ne]
      intro e; rw [e] at hb; simp at hb
    have h2 : (b == 43) = false := by
      rw [beq_eq_false_iff_ne]
      intro e; rw [e] at hb; simp at hb
    unfold Lib.atoi
    dsimp only
    rw [h1, h2, if_neg (by decide), if_neg (by decide)]
    unfold Lib.decNat
    rw [← h, decFrom_digits]
    simp [h]
/-- a numeral of a number below 10^k has at most k digits -/
theorem dec_most {n k : Nat} (hk : 1 ≤ k) (h : n < 10 ^ k) : (Lib.decDigits n).length ≤ k := by
  rw [Lib.decDigits_length]
  induction k generalizing n with
  | zero => omega
  | succ k ih =>
    by_cases hn : n < 10
    · rw [Lib.nDigits_small hn]; omega
    · rw [Lib.nDigits_big hn]
      have hk1 : 1 ≤ k := by
        rcases Nat.eq_zero_or_pos k with h0 | h0
        · subst h0; simp at h; omega
        · exact h0
      have := ih (n := n / 10) hk1 (by rw [Nat.pow_succ] at h; omega)
      omega
end
section
set_option maxRecDepth 100000
open Go.RowKit
def IfaceAt (w : World) (g : Nat) : Prop := ∃ ev, w.cell? ⟨g, 0, none⟩ = some ev ∧ (ev = .nilIface ∨ ∃ te pe, ev = .iface te pe)
theorem IfaceAt.old {w w' : World} {g : Nat} (h : IfaceAt w g) (hb : Below w.heap.size w w') : IfaceAt w' g := by
  obtain ⟨ev, h1, h2⟩ := h
  exact ⟨ev, (hb.cell (p := ⟨g, 0, none⟩) (World.block_lt_of_cell? _ ⟨_, 0, none⟩ h1)).trans h1, h2⟩
/-- what the library's variables hold -/
structure VarsAt (w : World) : Prop where
  tab : Lib.TabIs Tryz.prog w "internal/strconv.uint64pow10" .u64 Lib.pow10Tab
  e0 : IfaceAt w (Tryz.laysC172_ren.g 15)
  e1 : IfaceAt w (Tryz.laysC172_ren.g 16)
  m : MaxAt w
theorem tab_old {w w' : World} {n : String} {k : IntKind} {zs : List Int} (h : Lib.TabIs Tryz.prog w n k zs) (hb : Below w.heap.size w w') : Lib.TabIs Tryz.prog w' n k zs := by
  unfold Lib.TabIs World.var? at h ⊢
  cases hg : Tryz.prog.globalNamed n with
  | none => simp [hg] at h
  | some g =>
    simp only [hg, Option.bind_some] at h ⊢
    rw [← h]
    have hlt : g < w.heap.size := by
      rcases Nat.lt_or_ge g w.heap.size with h' | h'
      · exact h'
      · simp [Array.getElem?_eq_none h'] at h
    rw [hb.block g hlt]
theorem VarsAt.old {w w' : World} (h : VarsAt w) (hb : Below w.heap.size w w') : VarsAt w' := ⟨tab_old h.tab hb, h.e0.old hb, h.e1.old hb, h.m.old hb⟩
theorem below_growR (w : World) (k : Nat) (os : Array Obj) : Below w.heap.size w (Sort.grow (w.drewN k) os) := by
  refine ((below_drewN (Below.refl _ w) k).trans ?_)
  exact ⟨rfl, rfl, rfl, by simp [Sort.grow, World.drewN], fun i hi => by
    have hi' : i < (w.drewN k).heap.size := by simpa [World.drewN] using hi
    simp only [Sort.grow]
    rw [Array.getElem?_append_left hi']⟩
/-- Itoa at a number that is not negative -/
theorem itoa_any (n : Nat) (hn : n ≤ 9223372036854775807) (w : World) (hv : VarsAt w) : Calls Tryz.prog 50 #[.int .i64 n] w fun e w' => e = .returned (strV (Lib.decDigits n)) ∧ Below w.heap.size w w' := by
  refine (Tryz.strconv_Itoa (n : Int) (by omega) (by omega) w hv.tab).mono ?_
  rintro e w' ⟨rfl, k, os, rfl⟩
  refine ⟨by rw [Lib.itoa_nonneg], below_growR _ _ _⟩
def atoiV (t : List UInt8) : Int := match Lib.atoiAll t with
  | .ok v => v
  | .range => Lib.atoiSat t
  | _ => 0
theorem atoiV_digits {n : Nat} (h : n < 10000000) : atoiV (Lib.decDigits n) = n := by
  have hl : (Lib.decDigits n).length ≤ 18 := Nat.le_trans (dec_most (k := 7) (by decide) (by simpa using h)) (by decide)
  unfold atoiV
  rw [Lib.atoiAll_short _ hl, atoi_digits]
  rfl
theorem atoi_any (t : List UInt8) (ht : t.length ≤ 1000000000) (w : World) (hv : VarsAt w) : Calls Tryz.prog 54 #[strV t] w fun e w' => (∃ er, e = .returned (.tuple #[.int .i64 (atoiV t), er])) ∧ Below w.heap.size w w' := by
  have hsz : (⟨t.toArray⟩ : ByteArray).size = t.length := by simp [ByteArray.size]
  have hd : (⟨t.toArray⟩ : ByteArray).data.toList = t := by simp
  unfold atoiV
  cases h : Lib.atoiAll t with
  | ok v =>
    refine (Tryz.strconv_Atoi_ok ⟨t.toArray⟩ (by rw [hsz]; omega) v (by rw [hd]; exact h) w).mono ?_
    rintro e w' ⟨rfl, hw⟩
    refine ⟨⟨_, rfl⟩, ?_⟩
    rcases hw with rfl | ⟨t, rfl⟩
    · exact Below.refl _ _
    · exact Lib.bytesWorld_below _ _ _
  | range =>
    obtain ⟨ev, h1, h2⟩ := hv.e1
    refine (Tryz.strconv_Atoi_range ⟨t.toArray⟩ (by rw [hsz]; omega) (by rw [hd]; exact h) ev w h1 h2).mono ?_
    rintro e w' ⟨N, rfl, -, -, hb⟩
    rw [hd]
    exact ⟨⟨_, rfl⟩, hb⟩
  | _ =>
    obtain ⟨ev, h1, h2⟩ := hv.e0
    refine (Tryz.strconv_Atoi_syntax ⟨t.toArray⟩ (by rw [hsz]; omega) (by rw [hd]; exact h) ev w h1 h2).mono ?_
    rintro e w' ⟨N, rfl, -, -, hb⟩
    exact ⟨⟨_, rfl⟩, hb⟩
end
section
def joinC (c : UInt8) : List (List UInt8) → List UInt8
  | [] => []
  | [a] => a
  | a :: b :: r => a ++ c :: joinC c (b :: r)
theorem splC_join (c : UInt8) : ∀ (L : List (List UInt8)), L ≠ [] → (∀ x ∈ L, c ∉ x) → splC c [] (joinC c L) = L
  | [], h, _ => absurd rfl h
  | [a], _, h => by
    rw [joinC, splC_no c a (h a (by simp))]; simp
  | a :: b :: r, _, h => by
    rw [joinC, splC_at c a _ (h a (by simp)), splC_join c (b :: r) (by simp) (fun x hx => h x (List.mem_cons_of_mem _ hx))]; simp
end
section
def wordE (b : BitsL) : List UInt8 := if validB b = true then hexB b else [45]
def lineWords (x : EncL) : List (List UInt8) := Lib.decDigits x.id.toNat :: Lib.decDigits x.ver.toNat :: x.fields.map wordE
def lineE (x : EncL) : List UInt8 := joinC 32 (lineWords x)
/-- the array with a word -/
def readE (t : List UInt8) : Option BitsL := if t = [45] then some noBits else parseB t
/-- an array as encoded records have them -/
def BitsIn (b : BitsL) : Prop := b = noBits ∨ (validB b = true ∧ ∀ w ∈ b.words, 0 ≤ w ∧ w < 18446744073709551616)
theorem noBits_bad : validB noBits = false := by decide
theorem hexD_mem {n : Nat} (h : n < 16) : digH n ∈ hexD := by
  unfold digH
  rw [List.getD, List.getElem?_eq_getElem (by show n < 16; exact h)]
  exact List.getElem_mem _
theorem hexN_mem (k : Nat) : ∀ n, ∀ c ∈ hexN k n, c ∈ hexD := by
  induction k with
  | zero => intro n c h; simp [hexN] at h
  | succ k ih =>
    intro n c h
    rw [hexN] at h
    rcases List.mem_append.1 h with h1 | h1
    · exact ih _ c h1
    · simp at h1; subst h1; exact hexD_mem (Nat.mod_lt _ (by decide))
theorem hexB_mem {b : BitsL} {c : UInt8} (h : c ∈ hexB b) : c ∈ hexD := by
  unfold hexB at h
  obtain ⟨n, _, hn⟩ := List.mem_flatMap.1 h
  exact hexN_mem 16 n c hn
theorem word_space (b : BitsL) : (32 : UInt8) ∉ wordE b := by
  unfold wordE
  split
  · intro h; have := hexB_mem h; revert this; decide
  · decide
theorem dec_space (n : Nat) : (32 : UInt8) ∉ Lib.decDigits n := by
  intro h
  have := dec_digit h
  simp at this
theorem line_words (x : EncL) : splC 32 [] (lineE x) = lineWords x := by
  unfold lineE
  refine splC_join 32 _ (by unfold lineWords; simp) fun t ht => ?_
  unfold lineWords at ht
  rcases List.mem_cons.1 ht with rfl | h1
  · exact dec_space _
  · rcases List.mem_cons.1 h1 with rfl | h2
    · exact dec_space _
    · obtain ⟨b, _, rfl⟩ := List.mem_map.1 h2
      exact word_space b
theorem valid_words {b : BitsL} (h : validB b = true) : 1 ≤ b.words.length := by
  unfold validB rightB at h
  simp only [Bool.and_eq_true, beq_iff_eq, decide_eq_true_eq] at h
  omega
theorem readE_word {b : BitsL} (h : BitsIn b) : readE (wordE b) = some b := by
  rcases h with rfl | ⟨hv, hw⟩
  · unfold wordE readE
    rw [noBits_bad]; rfl
  · unfold wordE
    rw [if_pos hv]
    unfold readE
    rw [if_neg, hexB_back b hv hw]
    intro e
    have h1 := hexB_len b
    have h2 := valid_words hv
    rw [e] at h1
    simp at h1
    omega
end
section
set_option maxRecDepth 100000
open Go.RowKit
theorem join_sep (c : UInt8) (L : List (List UInt8)) : Lib.join L [c] = joinC c L := by
  induction L with
  | nil => rfl
  | cons a L ih =>
    cases L with
    | nil => rw [Lib.join_one]; rfl
    | cons b L =>
      rw [Lib.join_cons] at *
      simp only [Lib.joinTail, List.map_cons, List.flatten_cons, joinC] at *
      rw [← ih]
      simp
theorem joinc_any (c : UInt8) (S : Nat → Prop) (v : Value) (L : List (List UInt8)) (w : World) (h : Vec w S 1 encS v L) (hn : L.length ≤ 1000000) (hj : (joinC c L).length ≤ 1000000000) :
    Calls Tryz.prog 52 #[v, strV [c]] w fun e w' => e = .returned (strV (joinC c L)) ∧ Below w.heap.size w w' := by
  obtain ⟨a, cap, rfl, hcap, h0⟩ := h
  have hjj : Lib.join ((L.map mkS).map (·.data.toList)) [c] = joinC c L := by
    rw [List.map_map, ← join_sep]; congr 1; conv => rhs; rw [← List.map_id L]
    exact List.map_congr_left fun x _ => by simp [mkS]
  by_cases hz : L = []
  · subst hz
    exact (Tryz.strings_Join_none a cap ⟨#[c]⟩ w).mono fun e w' ⟨he, hw⟩ => ⟨he, by rw [hw]; exact Below.refl _ _⟩
  · obtain ⟨b, off, rfl, _, hb, hc⟩ := h0 (List.length_pos_iff.2 hz)
    have := Tryz.strings_Join b off cap (L.map mkS) ⟨#[c]⟩ w (fun j x hx => by
      rw [List.getElem?_map] at hx
      obtain ⟨y, hy, rfl⟩ := Option.map_eq_some_iff.1 hx
      have := hc j y hy 0 _ rfl
      simpa [mkS] using this) hb (by simp; omega) (by simpa using hcap) (by rw [show (⟨#[c]⟩ : ByteArray).data.toList = [c] from rfl, hjj]; omega)
    rw [show (⟨#[c]⟩ : ByteArray).data.toList = [c] from rfl, hjj, List.length_map] at this
    exact this
end
section
set_option maxRecDepth 100000
open Go.RowKit
attribute [local go_sem] toList_mk mk_size str_append
theorem joinC_most (c : UInt8) (m : Nat) : ∀ (L : List (List UInt8)), (∀ x ∈ L, x.length ≤ m) → (joinC c L).length ≤ L.length * (m + 1)
  | [], _ => by simp [joinC]
  | [a], h => by have := h a (by simp); simp [joinC]; omega
  | a :: b :: r, h => by
    have h1 := h a (by simp)
    have h2 := joinC_most c m (b :: r) (fun x hx => h x (List.mem_cons_of_mem _ hx))
    simp only [joinC, List.length_append, List.length_cons] at *
    rw [Nat.add_mul, Nat.one_mul]
    omega
def WordsOk (b : BitsL) : Prop := ∀ x ∈ b.words, 0 ≤ x ∧ x < 18446744073709551616
/-- an array that Hex can be asked for -/
def HexIn (b : BitsL) : Prop := InI b.len ∧ (validB b = true → WordsOk b)
theorem wordE_len {b : BitsL} : (wordE b).length ≤ 128 := by
  unfold wordE
  split
  · next h => have := valid_len h; rw [hexB_len]; omega
  · decide
theorem line_len {x : EncL} (h : evalidB x = true) : (lineE x).length ≤ 2000 := by
  unfold evalidB at h
  simp only [Bool.and_eq_true, decide_eq_true_eq] at h
  have := joinC_most 32 200 (lineWords x) (fun t ht => by
    unfold lineWords at ht
    rcases List.mem_cons.1 ht with rfl | h1
    · have := dec_most (n := x.id.toNat) (k := 7) (by decide) (by omega); omega
    · rcases List.mem_cons.1 h1 with rfl | h2
      · have := dec_most (n := x.ver.toNat) (k := 7) (by decide) (by omega); omega
      · obtain ⟨b, _, rfl⟩ := List.mem_map.1 h2
        have := @wordE_len b; omega)
  have h2 : (lineWords x).length = x.fields.length + 2 := by unfold lineWords; simp
  rw [h2] at this
  unfold lineE
  omega
theorem joinS_any (S : Nat → Prop) (v : Value) (L : List (List UInt8)) (w : World) (h : Vec w S 1 encS v L) (hn : L.length ≤ 1000000) (hj : (joinC 32 L).length ≤ 1000000000) :
    Calls Tryz.prog 52 #[v, .string ⟨#[32]⟩] w fun e w' => e = .returned (strV (joinC 32 L)) ∧ Below w.heap.size w w' := joinc_any 32 S v L w h hn hj
/-- the line, and the error -/
def lineV (x : EncL) : List UInt8 := if evalidB x = true then lineE x else []
def lineErr (x : EncL) : Int := if evalidB x = true then 0 else 7
set_option maxHeartbeats 4000000 in
theorem eline_no (S : Nat → Prop) (v : Value) (x : EncL) (w : World) (h : EncVal w S v x) (hi : ∀ b ∈ x.fields, InI b.len) (hn : x.fields.length ≤ 1000000) (hv : evalidB x = false) :
    Calls Tryz.prog 17 #[v] w fun e w' => e = .returned (.tuple #[strV [], .int .i64 7]) ∧ Below w.heap.size w w' := by
  obtain ⟨s, rfl, hF⟩ := h
  obtain ⟨a, cap, rfl⟩ := hF.slice
  obtain ⟨id, ver, F⟩ := x
  dsimp only at hF hi hn ⊢
  have HF := Lib.hid hF; have HI := Lib.hid hi; have HV := Lib.hid hv
  clear hF hi hv
  go_enter Tryz.func17, Tryz.ntmps17
  go_wp2_with fail
  refine wp_calls_world (fun W hW => ?_)
  have hb0 : Below w.heap.size w W := by rw [hW]; exact (Below.refl w.heap.size w).alloc (Nat.le_refl _) _
  clear hW
  refine (evalid_any S _ ⟨id, ver, F⟩ _ ⟨_, rfl, HF.out.below hb0⟩ HI.out hn).mono ?_
  rw [HV.out]
  rintro e w1 ⟨rfl, hb⟩
  have HB1 := Lib.hid (hb0.trans (hb.mono hb0.size))
  clear hb hb0
  go_wp2_with fail
  go_ret2
  exact ⟨rfl, HB1.out⟩
set_option maxHeartbeats 8000000 in
theorem eline_yes (S : Nat → Prop) (v : Value) (x : EncL) (w : World) (h : EncVal w S v x) (hvr : VarsAt w) (hi : ∀ b ∈ x.fields, HexIn b) (hv : evalidB x = true) :
    Calls Tryz.prog 17 #[v] w fun e w' => e = .returned (.tuple #[strV (lineE x), .int .i64 0]) ∧ Below w.heap.size w w' := by
  have hev := hv
  have hll := line_len hv
  unfold evalidB at hev
  simp only [Bool.and_eq_true, decide_eq_true_eq] at hev
  obtain ⟨s, rfl, hF⟩ := h
  obtain ⟨a, cap, rfl⟩ := hF.slice
  obtain ⟨id, ver, F⟩ := x
  dsimp only at hF hi hev ⊢
  obtain ⟨i, rfl⟩ : ∃ i : Nat, id = i := Int.eq_ofNat_of_zero_le (by omega)
  obtain ⟨j, rfl⟩ : ∃ j : Nat, ver = j := Int.eq_ofNat_of_zero_le (by omega)
  have hFl : F.length ≤ 5 := by omega
  have hib : i ≤ 9223372036854775807 := by omega
  have hjb : j ≤ 9223372036854775807 := by omega
  obtain ⟨z, hz⟩ : ∃ z, lineE ⟨(i : Int), (j : Int), F⟩ = z := ⟨_, rfl⟩
  obtain ⟨T, hT⟩ : ∃ T, lineWords ⟨(i : Int), (j : Int), F⟩ = T := ⟨_, rfl⟩
  have hjz : joinC 32 T = z := by rw [← hT, ← hz]; rfl
  have htl : T.length = F.length + 2 := by rw [← hT]; unfold lineWords; simp
  have hT0 : [Lib.decDigits i, Lib.decDigits j] ++ (F.drop 0).map wordE = T := by rw [← hT]; unfold lineWords; simp
  rw [hz] at hll ⊢
  obtain ⟨dx, hdx⟩ : ∃ dx, Lib.decDigits i = dx := ⟨_, rfl⟩
  obtain ⟨dy, hdy⟩ : ∃ dy, Lib.decDigits j = dy := ⟨_, rfl⟩
  have hit1 := fun w hw => itoa_any i hib w hw
  have hit2 := fun w hw => itoa_any j hjb w hw
  rw [hdx] at hit1 hT0; rw [hdy] at hit2 hT0
  have HF := Lib.hid hF; have HI := Lib.hid hi; have HV := Lib.hid hv; have HVr := Lib.hid hvr; have HI1 := Lib.hid hit1; have HI2 := Lib.hid hit2
  have HJ := Lib.hid hjz; have HT0 := Lib.hid hT0; have HTl := Lib.hid htl; have HLl := Lib.hid hll
  clear hF hi hv hvr hit1 hit2 hdx hdy hz hT hjz htl hT0 hll hev
  go_enter Tryz.func17, Tryz.ntmps17
  go_wp2_with fail
  refine wp_calls_world (fun W hW => ?_)
  have hb0 : Below w.heap.size w W := by rw [hW]; exact (Below.refl w.heap.size w).alloc (Nat.le_refl _) _
  have hx0 : W.heap[w.heap.size]? = some (.cells #[.int .i64 i, .int .i64 j, .slice a F.length cap] 37 (0, 0)) := by rw [hW]; exact blk_new rfl
  clear hW
  refine (evalid_any S _ ⟨(i : Int), (j : Int), F⟩ _ ⟨_, rfl, HF.out.below hb0⟩ (fun b hb => (HI.out b hb).1) (by show F.length ≤ 1000000; omega)).mono ?_
  rw [HV.out]
  rintro e w1 ⟨rfl, hb⟩
  have hx1 := blk_below hb (lt_of_blk hx0) hx0
  have HB1 := Lib.hid (hb0.trans (hb.mono hb0.size)); have HX1 := Lib.hid hx1
  have HVr1 := Lib.hid (HVr.out.old HB1.out)
  obtain ⟨x0, x1, x2⟩ := cells3 hx1
  have lx := lt_of_blk hx1
  clear hb hb0 hx0 hx1
  go_wp2_with fail
  have bD : Below w1.heap.size w1 w1.drew := (Below.refl _ _).drew
  refine wp_region_noPanic ?_
  refine wp_region_held_drew (S := (fun w' => w'.cell? ⟨w.heap.size, 0, none⟩ = some (.int .i64 i) ∧ w'.cell? ⟨w.heap.size, 1, none⟩ = some (.int .i64 j))) (by kernel_rfl) (⟨x0, x1⟩) (fun hHeld => ?_)
  refine tH 0 (h := ?_)
  try simp only [List.getElem_toArray, List.getElem_cons_zero, List.getElem_cons_succ, Act.put, List.setIfInBounds_toArray, List.set_cons_zero, List.set_cons_succ]
  refine tH 1 (h := ?_)
  try simp only [List.getElem_toArray, List.getElem_cons_zero, List.getElem_cons_succ, Act.put, List.setIfInBounds_toArray, List.set_cons_zero, List.set_cons_succ]
  refine tH 3 (h := ?_)
  try simp only [List.getElem_toArray, List.getElem_cons_zero, List.getElem_cons_succ, Act.put, List.setIfInBounds_toArray, List.set_cons_zero, List.set_cons_succ]
  refine tH 4 (h := ?_)
  try simp only [List.getElem_toArray, List.getElem_cons_zero, List.getElem_cons_succ, Act.put, List.setIfInBounds_toArray, List.set_cons_zero, List.set_cons_succ]
  refine wpAnyH_ready (rs := [2]) (by kernel_rfl) (by simp) ?_
  refine AllReadyH.cons rfl (fun K hK => ?_) AllReadyH.nil
  go_simp
  refine (HI1.out _ (HVr1.out.old bD)).mono ?_; rintro e wa ⟨rfl, hb⟩; have ba := bD.trans (hb.mono bD.size); clear hb
  refine hK.out _ _ (⟨(ba.cell (p := ⟨w.heap.size, 0, none⟩) lx).trans x0, (ba.cell (p := ⟨w.heap.size, 1, none⟩) lx).trans x1⟩) (fun hHeld => ?_)
  clear hK K
  try simp only [List.getElem_toArray, List.getElem_cons_zero, List.getElem_cons_succ, Act.put, List.setIfInBounds_toArray, List.set_cons_zero, List.set_cons_succ]
  refine wpAnyH_ready (rs := [5]) (by kernel_rfl) (by simp) ?_
  refine AllReadyH.cons rfl (fun K hK => ?_) AllReadyH.nil
  go_simp
  refine (HI2.out _ (HVr1.out.old ba)).mono ?_; rintro e wb ⟨rfl, hb⟩; have bb := ba.trans (hb.mono ba.size); clear hb
  refine hK.out _ _ (⟨(bb.cell (p := ⟨w.heap.size, 0, none⟩) lx).trans x0, (bb.cell (p := ⟨w.heap.size, 1, none⟩) lx).trans x1⟩) (fun hHeld => ?_)
  clear hK K
  try simp only [List.getElem_toArray, List.getElem_cons_zero, List.getElem_cons_succ, Act.put, List.setIfInBounds_toArray, List.set_cons_zero, List.set_cons_succ]
  refine wpAnyH_ready (rs := [6]) (by kernel_rfl) (by simp) ?_
  refine AllReadyH.cons rfl (fun K hK => ?_) AllReadyH.nil
  go_simp
  refine hK.out _ _ (⟨((bb.alloc bb.size _).cell (p := ⟨w.heap.size, 0, none⟩) lx).trans x0, ((bb.alloc bb.size _).cell (p := ⟨w.heap.size, 1, none⟩) lx).trans x1⟩) (fun hHeld => ?_)
  clear hK K
  try simp only [List.getElem_toArray, List.getElem_cons_zero, List.getElem_cons_succ, Act.put, List.setIfInBounds_toArray, List.set_cons_zero, List.set_cons_succ]
  refine tH 7 (h := ?_)
  try simp only [List.getElem_toArray, List.getElem_cons_zero, List.getElem_cons_succ, Act.put, List.setIfInBounds_toArray, List.set_cons_zero, List.set_cons_succ]
  refine wpAnyH_done (by kernel_rfl) ?_ _
  refine NoPanic.normal ?_
  refine exitk_world (fun W2 hW2 => ?_)
  have hb2 : Below w1.heap.size w1 W2 := by rw [hW2]; exact bb.alloc bb.size _
  have hg2 : W2.heap[wb.heap.size]? = some (.cells ([dx, dy].flatMap encS).toArray 9 (0, 0)) := by rw [hW2]; exact blk_new rfl
  have zg : w.heap.size ≤ wb.heap.size := Nat.le_trans HB1.out.size bb.size
  clear hW2 hHeld
  have ho2 : OwnV 9 1 encS w (.slice (some ⟨wb.heap.size, 0, none⟩) 2 2) [dx, dy] W2 := own_new (HB1.out.trans (hb2.mono HB1.out.size)) zg hg2 rfl (by simp) rfl
  have hx2 := blk_below hb2 lx HX1.out
  obtain ⟨x0', x1', x2'⟩ := cells3 hx2
  have lx2 := lt_of_blk hx2
  have HO2 := Lib.hid ho2
  clear hg2 ho2 hx2 x0 x1 x2 bD ba bb hb2
  go_wp2_with fail
  go_loopw [4, 22] (fun v k wr => ∃ (n : Nat) (C : List (List UInt8)), k = .int .i64 n ∧ n ≤ F.length ∧ OwnV 9 1 encS w v C wr ∧ C.length = n + 2 ∧ Hid (C ++ (F.drop n).map wordE = T)) (fun _ k _ => F.length - (intOf k).toNat)
  case atStart => exact ⟨0, [dx, dy], rfl, by omega, HO2.out, rfl, HT0⟩
  case round =>
    obtain ⟨n, C, rfl, hn, ho, hCl, hC⟩ := hrel
    have HO := Lib.hid ho; have HCl := Lib.hid hCl
    obtain ⟨av, cv, rfl⟩ := own_slice ho.1
    clear ho hCl
    by_cases hlt : n < F.length
    · have hq : decide ((n : Int) < F.length) = true := by simp; omega
      have hni : (n : Int) < (F.length : Int) := by omega
      obtain ⟨b, off, c, rfl, lb, c0, c1, hat⟩ := (HF.out.below HO.out.2).at n hlt
      rw [getD_at _ _ hlt] at hat
      have hC1 := hC.out
      rw [List.drop_eq_getElem_cons hlt, List.map_cons] at hC1
      have hin := HI.out _ (List.getElem_mem hlt)
      obtain ⟨x, hx⟩ : ∃ x, F[n] = x := ⟨_, rfl⟩
      rw [hx] at hat hC1 hin
      obtain ⟨cl, cA, cn, cc⟩ := c
      dsimp only at c0 c1
      have HAt := Lib.hid (show BitsAt wr S (.agg #[.int .i64 cl, .slice cA cn cc]) x from hat)
      cases hvb : validB x
      · have hwx : wordE x = [45] := by unfold wordE; rw [hvb]; rfl
        rw [hwx, ← List.singleton_append, ← List.append_assoc] at hC1
        have HC1 := Lib.hid hC1; have HVb := Lib.hid hvb; have HIn := Lib.hid hin
        clear hat hC1 hC hx hvb hwx hin
        go_wp2_with fail
        refine wp_calls_world (fun W3 hW3 => ?_)
        have hb3 : Below wr.heap.size wr W3 := by rw [hW3]; exact (Below.refl wr.heap.size wr).alloc (Nat.le_refl _) _
        clear hW3
        refine (hex_no S _ x _ (HAt.out.below hb3) HIn.out.1 HVb.out).mono ?_
        rintro e w4 ⟨rfl, hb⟩
        have hb4 : Below wr.heap.size wr w4 := hb3.trans (hb.mono hb3.size)
        have HO1 := Lib.hid ((HO.out.below hb4).below ((Below.refl w4.heap.size w4).alloc (Nat.le_refl _) (.cells #[strV [45]] 9)))
        have HR1 := Lib.hid (show Reads (w4.alloc (.cells #[strV [45]] 9)) 1 (.slice (some ⟨w4.heap.size, 0, none⟩) 1 1) ([[45]] : List (List UInt8)).length (([[45]] : List (List UInt8)).flatMap encS) from reads_block (t := 9) (fr := (0, 0)) (blk_new rfl) rfl)
        have hcn : C.length + ([[45]] : List (List UInt8)).length ≤ 1000000000 := by have := HCl.out; simp; omega
        clear hb hb3 c0 c1
        have d8 : ((8 : Int) != 0) = true := rfl
        go_wp2_with (at_builtin; refine wpList_append_v rfl (.tmp 33) (.tmp 35) 28 rfl 9 (.string ⟨#[]⟩) 1 16 encS (fun _ => rfl) oneG Tryz.underlying28 infoS rfl (by decide) (by decide) (w0 := w) (v := .slice av C.length cv) (A := C) (B := [[45]]) rfl HO1.out rfl HR1.out hcn ?_; intro v5 w5 ho5 hk5 hz5)
        go_roundw
        case rel => exact ⟨n + 1, C ++ [[45]], by go_num, by omega, ho5, by have := HCl.out; simp; omega, HC1⟩
        case measure => simp [intOf]; omega
      · have hwx : wordE x = hexB x := by unfold wordE; rw [hvb]; rfl
        have hxl : (hexB x).length ≤ 128 := by rw [← hwx]; exact wordE_len
        rw [hwx, ← List.singleton_append, ← List.append_assoc] at hC1
        obtain ⟨hx2, hhx⟩ : ∃ t, hexB x = t := ⟨_, rfl⟩
        have hcall := fun w h => hex_yes S (.agg #[.int .i64 cl, .slice cA cn cc]) x w h hvb (hin.2 hvb)
        rw [hhx] at hC1 hcall hxl
        have HC1 := Lib.hid hC1; have HCall := Lib.hid hcall
        clear hat hC1 hC hx hvb hwx hin hcall hhx
        go_wp2_with fail
        refine wp_calls_world (fun W3 hW3 => ?_)
        have hb3 : Below wr.heap.size wr W3 := by rw [hW3]; exact (Below.refl wr.heap.size wr).alloc (Nat.le_refl _) _
        clear hW3
        refine (HCall.out _ (HAt.out.below hb3)).mono ?_
        rintro e w4 ⟨rfl, hb⟩
        have hb4 : Below wr.heap.size wr w4 := hb3.trans (hb.mono hb3.size)
        have HO1 := Lib.hid ((HO.out.below hb4).below ((Below.refl w4.heap.size w4).alloc (Nat.le_refl _) (.cells #[strV hx2] 9)))
        have HR1 := Lib.hid (show Reads (w4.alloc (.cells #[strV hx2] 9)) 1 (.slice (some ⟨w4.heap.size, 0, none⟩) 1 1) ([hx2] : List (List UInt8)).length (([hx2] : List (List UInt8)).flatMap encS) from reads_block (t := 9) (fr := (0, 0)) (blk_new rfl) rfl)
        have hcn : C.length + ([hx2] : List (List UInt8)).length ≤ 1000000000 := by have := HCl.out; simp; omega
        clear hb hb3 c0 c1
        have d8 : ((0 : Int) != 0) = false := rfl
        go_wp2_with (at_builtin; refine wpList_append_v rfl (.tmp 33) (.tmp 35) 28 rfl 9 (.string ⟨#[]⟩) 1 16 encS (fun _ => rfl) oneG Tryz.underlying28 infoS rfl (by decide) (by decide) (w0 := w) (v := .slice av C.length cv) (A := C) (B := [hx2]) rfl HO1.out rfl HR1.out hcn ?_; intro v5 w5 ho5 hk5 hz5)
        go_roundw
        case rel => exact ⟨n + 1, C ++ [hx2], by go_num, by omega, ho5, by have := HCl.out; simp; omega, HC1⟩
        case measure => simp [intOf]; omega
    · have hq : decide ((n : Int) < F.length) = false := by simp; omega
      obtain rfl : n = F.length := by omega
      have hC1 := hC.out
      rw [List.drop_length, List.map_nil, List.append_nil] at hC1
      have HC1 := Lib.hid hC1
      have HV := Lib.hid (OwnV.vec (size := 1) (enc := encS) (fun _ => rfl) HO.out)
      clear hC hC1
      go_wp2_with fail
      refine (joinS_any _ _ C _ HV.out (by have := HCl.out; omega) (by rw [HC1.out, HJ.out]; have := HLl.out; omega)).mono ?_
      rw [HC1.out, HJ.out]
      rintro e w5 ⟨rfl, hb⟩
      go_wp2_with fail
      go_ret2
      exact ⟨rfl, HO.out.2.trans (hb.mono HO.out.2.size)⟩
theorem eline_any (S : Nat → Prop) (v : Value) (x : EncL) (w : World) (h : EncVal w S v x) (hvr : VarsAt w) (hi : ∀ b ∈ x.fields, HexIn b) (hn : x.fields.length ≤ 1000000) :
    Calls Tryz.prog 17 #[v] w fun e w' => e = .returned (.tuple #[strV (lineV x), .int .i64 (lineErr x)]) ∧ Below w.heap.size w w' := by
  unfold lineV lineErr
  cases hv : evalidB x
  · exact eline_no S v x w h (fun b hb => (hi b hb).1) hn hv
  · exact eline_yes S v x w h hvr hi hv
end
section
/-- the arrays with some words -/
def readAll : List (List UInt8) → Option (List BitsL)
  | [] => some []
  | t :: l => match readE t with
    | none => none
    | some b => match readAll l with
      | none => none
      | some m => some (b :: m)
/-- the encoded record that a text stands for -/
def parsedE (t : List UInt8) (x : EncL) : Option EncL := if evalidB x = true ∧ lineE x = t then some x else none
def parseE (t : List UInt8) : Option EncL :=
  if (splC 32 [] t).length < 2 then none else
  match readAll ((splC 32 [] t).drop 2) with
  | none => none
  | some fs => parsedE t ⟨atoiV ((splC 32 [] t).getD 0 []), atoiV ((splC 32 [] t).getD 1 []), fs⟩
theorem layH_lt : ∀ (l : List UInt8) (W : List Nat) (i : Nat), (∀ n ∈ W, n < 18446744073709551616) → ∀ n ∈ layH W i l, n < 18446744073709551616
  | [], W, i, h => h
  | c :: l, W, i, h => by
    rw [layH]
    refine layH_lt l _ _ fun n hn => ?_
    rcases List.mem_or_eq_of_mem_set hn with h1 | h1
    · exact h n h1
    · rw [h1]; unfold hexStep; exact Nat.mod_lt _ (by decide)
theorem layH_size (l : List UInt8) : ∀ (W : List Nat) (i : Nat), (layH W i l).length = W.length := by
  induction l with
  | nil => intro W i; rfl
  | cons c l ih => intro W i; rw [layH, ih, List.length_set]
theorem parseB_in {t : List UInt8} {b : BitsL} (h : parseB t = some b) : validB b = true ∧ WordsOk b := by
  unfold parseB at h
  split at h
  · next hr =>
    split at h
    · cases h
      have hr' := hr
      unfold rightB at hr'
      simp only [Bool.and_eq_true, decide_eq_true_eq, beq_iff_eq] at hr'
      refine ⟨?_, fun x hx => ?_⟩
      · unfold validB
        dsimp only
        rw [hr, Bool.true_and, beq_iff_eq, List.length_map, layH_size, List.length_replicate]
        omega
      · obtain ⟨n, hn, rfl⟩ := List.mem_map.1 hx
        have := layH_lt t (List.replicate (t.length / 16) 0) 0 (fun n hn => by rw [List.eq_of_mem_replicate hn]; decide) n hn
        omega
    · cases h
  · cases h
theorem readE_in {t : List UInt8} {b : BitsL} (h : readE t = some b) : HexIn b ∧ BitsIn b := by
  unfold readE at h
  split at h
  · cases h; exact ⟨⟨⟨by decide, by decide⟩, fun h => by rw [noBits_bad] at h; cases h⟩, .inl rfl⟩
  · obtain ⟨h1, h2⟩ := parseB_in h
    exact ⟨⟨valid_in h1, fun _ => h2⟩, .inr ⟨h1, h2⟩⟩
theorem readAll_in : ∀ (l : List (List UInt8)) (fs : List BitsL), readAll l = some fs → fs.length = l.length ∧ ∀ b ∈ fs, HexIn b
  | [], fs, h => by cases h; exact ⟨rfl, fun b hb => by simp at hb⟩
  | t :: l, fs, h => by
    unfold readAll at h
    split at h
    · cases h
    · next b hb =>
      split at h
      · cases h
      · next m hm =>
        cases h
        obtain ⟨h1, h2⟩ := readAll_in l m hm
        refine ⟨by simp [h1], fun c hc => ?_⟩
        rcases List.mem_cons.1 hc with rfl | h3
        · exact (readE_in hb).1
        · exact h2 c h3
theorem readAll_words : ∀ (F : List BitsL), (∀ b ∈ F, BitsIn b) → readAll (F.map wordE) = some F
  | [], _ => rfl
  | b :: F, h => by
    rw [List.map_cons, readAll, readE_word (h b List.mem_cons_self), readAll_words F fun c hc => h c (List.mem_cons_of_mem _ hc)]
/-- a line leads back -/
theorem eparse_line {x : EncL} (h : evalidB x = true) (hb : ∀ b ∈ x.fields, BitsIn b) : parseE (lineE x) = some x := by
  have h' := h
  unfold evalidB at h'
  simp only [Bool.and_eq_true, decide_eq_true_eq] at h'
  unfold parseE
  rw [line_words]
  have hl : ¬ (lineWords x).length < 2 := by unfold lineWords; simp
  rw [if_neg hl]
  have h1 : (lineWords x).drop 2 = x.fields.map wordE := rfl
  have h2 : (lineWords x).getD 0 [] = Lib.decDigits x.id.toNat := rfl
  have h3 : (lineWords x).getD 1 [] = Lib.decDigits x.ver.toNat := rfl
  rw [h1, h2, h3, readAll_words _ hb, atoiV_digits (by omega), atoiV_digits (by omega)]
  have h4 : (⟨((x.id.toNat : Nat) : Int), ((x.ver.toNat : Nat) : Int), x.fields⟩ : EncL) = x := by
    obtain ⟨i, j, F⟩ := x
    dsimp only at h' ⊢
    rw [Int.toNat_of_nonneg (by omega), Int.toNat_of_nonneg (by omega)]
  dsimp only
  rw [h4]
  unfold parsedE
  rw [if_pos ⟨h, rfl⟩]
/-- what is read has the text as its line -/
theorem eparse_back {t : List UInt8} {x : EncL} (h : parseE t = some x) : evalidB x = true ∧ lineE x = t ∧ ∀ b ∈ x.fields, HexIn b := by
  unfold parseE at h
  split at h
  · cases h
  · split at h
    · cases h
    · next fs hf =>
      unfold parsedE at h
      split at h
      · next hc => cases h; exact ⟨hc.1, hc.2, (readAll_in _ _ hf).2⟩
      · cases h
theorem line_some (x : EncL) : lineE x ≠ [] := by
  unfold lineE lineWords
  rw [joinC]
  intro h
  exact dec_ne _ (List.append_eq_nil_iff.1 h).1
end
end Go.Proofs.YtoeplomdcannlaaGreatDoor
