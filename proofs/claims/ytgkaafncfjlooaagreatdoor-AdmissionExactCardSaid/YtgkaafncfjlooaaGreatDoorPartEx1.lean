/- Parts of one proof: HeldK, Take, Lib, Lib2, PopPlain, Pop64, TextPlain, SipPlain, TextA, DatePlain, DateA, DateB, DateC, TextB, TextC, Read, Vec, Shelf, TextD, TextE, TextF, NameA, NameB, NameC, NameD, NameE, NameF, AddrA, AddrB, AddrC. -/
import Derived.OrdersHeld
import Derived.Deep.RegionHeld
import Derived.ProofKit
import Derived.Test.YtgkaafncfjlooaaGreatDoorRows
import Derived.WalkKit
import Derived.WalkSpells
import Derived.WalkSmall
import Derived.WalkLawsBesides
import Derived.Lib.Hide
import Derived.BigQuiet
import Derived.Deep.QuietTactic
import Derived.ChangeKeysEq
import Derived.Laws.BytesArg
import Derived.IntWalk
import Derived.Deep.Light
import Derived.Below
import Derived.Deep.RegionHeld3
import Derived.StillTailTactics
import Derived.Lib.FieldsP
import Derived.Lib.Join
import Derived.Shelf.Strings.Builder1
import Derived.Shelf.Strings.Builder2
import Derived.Shelf.Strings.OnBuilder
import Derived.Shelf.Strings.Trim
import Derived.Shelf.Small.Utf8
import Derived.Shelf.Small.Bits
import Derived.Shelf.Small.Strs
import Derived.Shelf.Strings.BuilderF
import Derived.Shelf.Strings.BuilderK
import Derived.Shelf.Strconv.Itoa0
import Derived.Shelf.Strconv.Itoa1
import Derived.Shelf.LaysM
import Derived.Shelf.Strconv.Itoa2
import Derived.Shelf.Strconv.Itoa3
import Derived.Shelf.Strings.Search1
import Derived.Shelf.Sort.Plain
import Derived.Shelf.Unicode.Decode
import Derived.Shelf.Strings.Runes
import Derived.Shelf.Strings.AsciiSet
import Derived.Shelf.Unicode.DecodeSlow
import Derived.Shelf.Strings.FieldsFuncAny
import Derived.Shelf.Slices.Turned
import Derived.Shelf.Slices.In.SortNone
import Derived.Test.YtgkaafncfjlooaaGreatDoorProg
import Derived.Ground.SlgfProg
import Derived.Shelf.SlicesQ.IndexFunc
import Derived.Deep.WholeRow
import Derived.Deep.CutBlock
import Derived.Great.BuildSlice
import Derived.Lib.QuietBelow
import Derived.Maps.AppendAt
import Derived.Laws.OwnMore
import Derived.Laws.AppendOwnNone
set_option maxHeartbeats 16000000
set_option maxRecDepth 100000
open Go.Proofs.Tryz
set_option linter.unusedSimpArgs false
set_option linter.unusedVariables false
namespace Go.Proofs.YtgkaafncfjlooaaGreatDoor
theorem zjy {p : Prop} (h : p) : Go.RowKit.Hid p := Lib.hid h
theorem xnl {n : Nat} : n ≤ n := Nat.le_refl n
theorem _root_.Go.RowKit.Hid.o {p : Prop} (h : Go.RowKit.Hid p) : p := h
theorem xex {α : Sort _} (x : α) : ∃ y, x = y := ⟨x, rfl⟩
section
open Go
section
variable {P:Program} {ops:Array Oper} {Q:Exit->Act->World->Prop} {md:Region.Mode} {S:World->Prop} {k:Nat}
def Closed (md:Region.Mode) (ops:Array Oper) (l:Array Bool):Prop :=
 ∀ j o,ops[j]?=some o->l.getD j false=true->∀ e∈o.after,Region.binds md e=true->l.getD e.on false=true
def closedB (md:Region.Mode) (ops:Array Oper) (l:Array Bool):Bool :=
 (List.range ops.size).all fun j=>match ops[j]? with
  | none=>true
  | some o=>!l.getD j false || o.after.all fun e=>!Region.binds md e || l.getD e.on false
theorem closed_spec {l:Array Bool} (h:closedB md ops l=true):Closed md ops l:=by
 intro j o ho hl e he hb;have hj:j<ops.size:=(Array.getElem?_eq_some_iff.1 ho).1;have h1:=List.all_eq_true.1 h j (List.mem_range.2 hj);simp only [ho] at h1;rw [hl] at h1;simp only [Bool.not_true,Bool.false_or,Array.all_eq_true_iff_forall_mem] at h1;have h2:=h1 e he;rw [hb] at h2;simpa using h2
theorem closed_step {l:Array Bool} {j:Nat} (h:Closed md ops l) (hj:j∈Region.ready md ops l):Closed md ops (l.setIfInBounds j true):=by
 intro i o ho hl e he hb;by_cases hij:i=j
 ·subst hij
  obtain ⟨_,o',a1,a0⟩:=mem_ready.1 hj;rw [ho] at a1;cases a1;exact getD_set_true (a0 e he hb)
 ·rw [getD_set_ne false (fun e=>hij e.symm)] at hl
  exact getD_set_true (h i o ho hl e he hb)
def reachB (md:Region.Mode) (ops:Array Oper):Nat->Nat->Nat->Bool
 | 0,_,_=>false
 | f+1,i,k=>match ops[k]? with
  | none=>false
  | some o=>o.after.any fun e=>Region.binds md e && (e.on == i || reachB md ops f i e.on)
theorem reach_spec {l:Array Bool} (hc:Closed md ops l):∀ (f i k:Nat),reachB md ops f i k=true->l.getD k false=true->l.getD i false=true:=by
 intro f;induction f with
 | zero=>intro i k h;simp [reachB] at h
 | succ f ih =>
  intro i k h hk;unfold reachB at h;cases ho:ops[k]? with
  | none=>simp [ho] at h
  | some o =>
   simp only [ho] at h;obtain ⟨e,he,hb⟩:=Array.any_eq_true'.1 h;simp only [Bool.and_eq_true,Bool.or_eq_true,beq_iff_eq] at hb;have h1:=hc k o ho hk e he hb.1
   rcases hb.2 with h2 | h2
   ·rw [<- h2];exact h1
   ·exact ih i e.on h2 h1
def zc9 (P:Program) (md:Region.Mode) (ops:Array Oper) (Q:Exit->Act->World->Prop) (S:World->Prop) (k:Nat):Nat->Array Bool->Act->World->Prop
 | 0,listed,a,w=>Region.ready md ops listed=[]/\Q .normal a w
 | fuel+1,listed,a,w =>
  (Region.ready md ops listed=[]->Q .normal a w) /\
  ∀ i∈Region.ready md ops listed,wpOp P ops Q i (fun a' w'=>((listed.setIfInBounds i true).getD k false=false->S w')/\zc9 P md ops Q S k fuel (listed.setIfInBounds i true) a' w') a w
theorem wpAny_of_k:∀ (fuel:Nat) (listed:Array Bool) (a:Act) (w:World),zc9 P md ops Q S k fuel listed a w->wpAny P md ops Q fuel listed a w
 | 0,_,_,_,h=>h
 | fuel+1,_,_,_,h=>⟨h.1,fun i hi=>wpOp_mono (fun a' w' h'=>wpAny_of_k fuel _ a' w' h'.2) (h.2 i hi)⟩
theorem wpAnyK_first {i:Nat} {oi:Oper} {v:Value} (hi:ops[i]?=some oi) (hsel:∀ (j:Nat) (o:Oper) cs b,ops[j]?=some o->o.op≠.select cs b)
  (hQ:∀ c a w,Q (.panic c) (a.put oi.dst v) w->Q (.panic c) a w) (f:Nat) (hreach:reachB md ops f i k=true) (hik:i≠k) :
  ∀ (fuel:Nat) (listed:Array Bool) (a:Act) (w:World),Closed md ops listed ->
   (∀ j oj,ops[j]?=some oj->j≠i->listed.getD j true=false->(∀ e∈oj.after,Region.binds md e=true->e.on≠i)->oi.apart ops oj=true) ->
   i∈Region.ready md ops listed->YieldsIf P ops S oi v a->S w ->
   zc9 P md ops Q S k fuel (listed.setIfInBounds i true) (a.put oi.dst v) w->zc9 P md ops Q S k (fuel+1) listed a w:=by
 intro fuel;induction fuel with
 | zero =>
  intro listed a w _ _ hr hy hS H
  refine ⟨fun h=>(by rw [h] at hr;cases hr),fun j hj=>?_⟩
  by_cases hji:j=i
  ·subst hji;exact hy.wpOp hi hS ⟨fun _=>hS,H⟩
  ·have:=ready_mono hj hji
   rw [H.1] at this;cases this
 | succ fuel ih =>
  intro listed a w b1 a0 hr hy hS H
  refine ⟨fun h=>(by rw [h] at hr;cases hr),fun j hj=>?_⟩
  by_cases hji:j=i
  ·subst hji;exact hy.wpOp hi hS ⟨fun _=>hS,H⟩
  ·have h1:=H.2 j (ready_mono hj hji)
   have a3:=closed_step b1 hj;obtain ⟨a2,oj,a4,a6⟩:=mem_ready.1 hj
   have a8:i<listed.size:=by
    have h0:=(mem_ready.1 hr).1
    rcases Nat.lt_or_ge i listed.size with h' | h'
    ·exact h'
    ·simp [Array.getElem?_eq_none h'] at h0
   have a9:(listed.setIfInBounds j true).getD i false=false:=by
    rw [getD_set_ne false hji];have h0:=(mem_ready.1 hr).1;simp [a8] at h0 ⊢;exact h0
   have a5:∀ e∈oj.after,Region.binds md e=true->e.on≠i:=fun e he hb heq=>by
    have h1:=a6 e he hb;have h0:=(mem_ready.1 hr).1;rw [heq] at h1;simp [a8] at h0 h1;rw [h0] at h1;cases h1
   have a7:((listed.setIfInBounds i true).setIfInBounds j true).getD k false=false:=by
    have b0:(listed.setIfInBounds j true).getD k false=false:=by
     cases hv:(listed.setIfInBounds j true).getD k false with
     | false=>rfl
     | true=>rw [reach_spec a3 f i k hreach hv] at a9;cases a9
    rw [Array.setIfInBounds_comm _ _ (fun e=>hji e.symm),getD_set_ne false hik];exact b0
   have h2:=wpOp_putIf a4 (a0 j oj a4 hji a2 a5) (fun cs b=>hsel i oi cs b hi) (fun cs b=>hsel j oj cs b a4) hQ hy h1
   have a1:∀ k ok,ops[k]?=some ok->k≠i->(listed.setIfInBounds j true).getD k true=false ->
     (∀ e∈ok.after,Region.binds md e=true->e.on≠i)->oi.apart ops ok=true:=fun k ok hk hki hun hno=>by
    refine a0 k ok hk hki ?_ hno;by_cases hjk:j=k
    ·subst hjk;exact a2
    ·rw [getD_set_ne true hjk] at hun;exact hun
   refine wpOp_mono (fun a' w' h3=>⟨fun _=>h3.2.1 a7,ih (listed.setIfInBounds j true) a' w' a3 a1 (ready_mono hr (Ne.symm hji)) h3.1 (h3.2.1 a7) ?_⟩) h2
   rw [Array.setIfInBounds_comm _ _ hji];exact h3.2.2
theorem wpAnyK_take {i:Nat} {oi:Oper} {v:Value} {fuel:Nat} {listed:Array Bool} {a:Act} {w:World} (hi:ops[i]?=some oi)
  (hs:Region.noSelect ops=true) (hf:Region.free md ops listed i=true) (hr:(Region.ready md ops listed).contains i=true)
  (hc:(closedB md ops listed && reachB md ops 12 i k && (i != k))=true)
  (hQ:∀ c a w,Q (.panic c) (a.put oi.dst v) w->Q (.panic c) a w) (hy:YieldsIf P ops S oi v a) (hS:S w)
  (h:zc9 P md ops Q S k fuel (listed.setIfInBounds i true) (a.put oi.dst v) w):zc9 P md ops Q S k (fuel+1) listed a w:=by
 simp only [Bool.and_eq_true,bne_iff_ne,ne_eq] at hc;exact wpAnyK_first hi (Region.noSelect_spec hs) hQ 12 hc.1.2 hc.2 fuel listed a w (closed_spec hc.1.1) (Region.free_spec hi hf) (by simpa using hr) hy hS h
theorem wpAnyK_first0 {i:Nat} {oi:Oper} {v:Value} (hi:ops[i]?=some oi) (hsel:∀ (j:Nat) (o:Oper) cs b,ops[j]?=some o->o.op≠.select cs b)
  (hQ:∀ c a w,Q (.panic c) (a.put oi.dst v) w->Q (.panic c) a w) (hik:i≠k) :
  ∀ (fuel:Nat) (listed:Array Bool) (a:Act) (w:World),
   (∀ j oj,ops[j]?=some oj->j≠i->listed.getD j true=false->(∀ e∈oj.after,Region.binds md e=true->e.on≠i)->oi.apart ops oj=true) ->
   i∈Region.ready md ops listed->YieldsIf P ops (fun _=>True) oi v a->(listed.getD k false=false->S w) ->
   zc9 P md ops Q S k fuel (listed.setIfInBounds i true) (a.put oi.dst v) w->zc9 P md ops Q S k (fuel+1) listed a w:=by
 intro fuel;induction fuel with
 | zero =>
  intro listed a w _ hr hy hS H
  refine ⟨fun h=>(by rw [h] at hr;cases hr),fun j hj=>?_⟩
  by_cases hji:j=i
  ·subst hji;exact hy.wpOp hi trivial ⟨fun h=>hS (by rw [getD_set_ne false hik] at h;exact h),H⟩
  ·have:=ready_mono hj hji
   rw [H.1] at this;cases this
 | succ fuel ih =>
  intro listed a w a0 hr hy hS H
  refine ⟨fun h=>(by rw [h] at hr;cases hr),fun j hj=>?_⟩
  by_cases hji:j=i
  ·subst hji;exact hy.wpOp hi trivial ⟨fun h=>hS (by rw [getD_set_ne false hik] at h;exact h),H⟩
  ·have h1:=H.2 j (ready_mono hj hji)
   obtain ⟨a2,oj,a3,a5⟩:=mem_ready.1 hj
   have a4:∀ e∈oj.after,Region.binds md e=true->e.on≠i:=fun e he hb heq=>by
    have h1:=a5 e he hb;have h0:=(mem_ready.1 hr).1;rw [heq] at h1
    rcases Nat.lt_or_ge i listed.size with h' | h'
    ·simp [h'] at h0 h1;rw [h0] at h1;cases h1
    ·simp [Array.getElem?_eq_none h'] at h1
   have h2:=wpOp_putIf a3 (a0 j oj a3 hji a2 a4) (fun cs b=>hsel i oi cs b hi) (fun cs b=>hsel j oj cs b a3) hQ hy h1
   have a1:∀ k ok,ops[k]?=some ok->k≠i->(listed.setIfInBounds j true).getD k true=false ->
     (∀ e∈ok.after,Region.binds md e=true->e.on≠i)->oi.apart ops ok=true:=fun k ok hk hki hun hno=>by
    refine a0 k ok hk hki ?_ hno;by_cases hjk:j=k
    ·subst hjk;exact a2
    ·rw [getD_set_ne true hjk] at hun;exact hun
   have a6:(listed.setIfInBounds j true).getD k false=false->((listed.setIfInBounds i true).setIfInBounds j true).getD k false=false:=fun h=>by
    rw [Array.setIfInBounds_comm _ _ (fun e=>hji e.symm),getD_set_ne false hik];exact h
   refine wpOp_mono (fun a' w' h3=>⟨fun h=>h3.2.1 (a6 h),ih (listed.setIfInBounds j true) a' w' a1 (ready_mono hr (Ne.symm hji)) h3.1 (fun h=>h3.2.1 (a6 h)) ?_⟩) h2
   rw [Array.setIfInBounds_comm _ _ hji];exact h3.2.2
theorem wpAnyK_take0 {i:Nat} {oi:Oper} {v:Value} {fuel:Nat} {listed:Array Bool} {a:Act} {w:World} (hi:ops[i]?=some oi)
  (hs:Region.noSelect ops=true) (hf:Region.free md ops listed i=true) (hr:(Region.ready md ops listed).contains i=true) (hik:i≠k)
  (hQ:∀ c a w,Q (.panic c) (a.put oi.dst v) w->Q (.panic c) a w) (hy:YieldsIf P ops (fun _=>True) oi v a) (hS:listed.getD k false=false->S w)
  (h:zc9 P md ops Q S k fuel (listed.setIfInBounds i true) (a.put oi.dst v) w):zc9 P md ops Q S k (fuel+1) listed a w :=
 wpAnyK_first0 hi (Region.noSelect_spec hs) hQ hik fuel listed a w (Region.free_spec hi hf) (by simpa using hr) hy hS h
theorem wpAnyK_all {rs:List Nat} {fuel:Nat} {listed:Array Bool} {a:Act} {w:World} (hr:Region.ready md ops listed=rs) (hne:rs≠[])
  (h:∀ i∈rs,wpOp P ops Q i (fun a' w'=>((listed.setIfInBounds i true).getD k false=false->S w')/\zc9 P md ops Q S k fuel (listed.setIfInBounds i true) a' w') a w):zc9 P md ops Q S k (fuel+1) listed a w :=
 ⟨fun h0=>absurd (hr ▸ h0) hne,hr ▸ h⟩
theorem zas {listed:Array Bool} {a:Act} {w:World} (hr:Region.ready md ops listed=[]) (h:Q .normal a w) :
  ∀ fuel,zc9 P md ops Q S k fuel listed a w
 | 0=>⟨hr,h⟩
 | _+1=>⟨fun _=>h,by rw [hr];simp⟩
def AllReadyK (P:Program) (md:Region.Mode) (ops:Array Oper) (Q:Exit->Act->World->Prop) (S:World->Prop) (k fuel:Nat) (listed:Array Bool) (a:Act) (w:World) (rs:List Nat):Prop :=
 ∀ i∈rs,wpOp P ops Q i (fun a' w'=>((listed.setIfInBounds i true).getD k false=false->S w')/\zc9 P md ops Q S k fuel (listed.setIfInBounds i true) a' w') a w
theorem AllReadyK.nil {fuel:Nat} {listed:Array Bool} {a:Act} {w:World}:AllReadyK P md ops Q S k fuel listed a w []:=fun _ h=>by cases h
theorem AllReadyK.cons {fuel:Nat} {listed:Array Bool} {a:Act} {w:World} {i:Nat} {o:Oper} {rs:List Nat} (ho:ops[i]?=some o)
  (h:∀ K':Act->World->Prop,Shut (∀ a w,((listed.setIfInBounds i true).getD k false=false->S w)->zc9 P md ops Q S k fuel (listed.setIfInBounds i true) a w->K' a w)->if Region.wanted o (yielded ops a.tmps)=true then Oper.wp P o a w K' Q else K' (a.put o.dst undef) w)
  (hs:AllReadyK P md ops Q S k fuel listed a w rs):AllReadyK P md ops Q S k fuel listed a w (i :: rs):=fun j hj=>by
 rcases List.mem_cons.1 hj with rfl | hj
 ·exact wpOp_step ho (fun K' hK=>h K' (fun a w hS hW=>hK a w ⟨hS,hW⟩))
 ·exact hs j hj
theorem zbf {rs:List Nat} {fuel:Nat} {listed:Array Bool} {a:Act} {w:World} (hr:Region.ready md ops listed=rs) (hne:rs≠[])
  (h:AllReadyK P md ops Q S k fuel listed a w rs):zc9 P md ops Q S k (fuel+1) listed a w:=wpAnyK_all hr hne h
theorem xrK (i:Nat) {P:Program} {md:Region.Mode} {ops:Array Oper} {Q:Exit->Act->World->Prop} {S:World->Prop} {k fuel:Nat} {listed:Array Bool} {a:Act} {w:World} {o:Oper} (ho:ops[i]?=some o)
    (h:∀ K':Act->World->Prop,Shut (∀ a w,((listed.setIfInBounds i true).getD k false=false->S w)->zc9 P md ops Q S k fuel (listed.setIfInBounds i true) a w->K' a w)->if Region.wanted o (yielded ops a.tmps)=true then Oper.wp P o a w K' Q else K' (a.put o.dst undef) w)
    (hr:Region.ready md ops listed=[i]:=by kernel_rfl):zc9 P md ops Q S k (fuel+1) listed a w:=zbf (rs:=[i]) hr (by simp) (AllReadyK.cons ho h AllReadyK.nil)
theorem xrH (i:Nat) {P:Program} {md:Region.Mode} {ops:Array Oper} {Q:Exit->Act->World->Prop} {S:World->Prop} {fuel:Nat} {listed:Array Bool} {a:Act} {w:World} {o:Oper} (ho:ops[i]?=some o)
    (h:∀ K':Act->World->Prop,Shut (∀ a w,S w->(S w->wpAnyH P md ops Q S fuel (listed.setIfInBounds i true) a w)->K' a w)->if Region.wanted o (yielded ops a.tmps)=true then Oper.wp P o a w K' Q else K' (a.put o.dst undef) w)
    (hr:Region.ready md ops listed=[i]:=by kernel_rfl):wpAnyH P md ops Q S (fuel+1) listed a w:=wpAnyH_ready (rs:=[i]) hr (by simp) (AllReadyH.cons ho h AllReadyH.nil)
theorem zaw {id:Nat} {a:Act} {w:World} (hm:P.follows .mixedOrders=true) (S:World->Prop) (k:Nat) (hS:S w.drew)
  (h:S w.drew->zc9 P .any ops Q S k ops.size (Array.replicate ops.size false) a w.drew):(Code.region id ops true).wp P Q a w :=
 wp_region_any hm (wpAny_of_k _ _ _ _ (h hS))
theorem zbc {S:World->Prop} {W:Act->World->Prop} {c:Prop} {K':Act->World->Prop} {a:Act} {w:World} (hK:Shut (∀ a w,(c->S w)->W a w->K' a w)) (hS:S w) (h:S w->W a w):K' a w:=hK.out _ _ (fun _=>hS) (h hS)
theorem zav {S:World->Prop} {W:Act->World->Prop} {c:Prop} {K':Act->World->Prop} {a:Act} {w:World} (hK:Shut (∀ a w,(c->S w)->W a w->K' a w)) (hc:¬ c) (h:W a w):K' a w:=hK.out _ _ (fun h0=>absurd h0 hc) h
end
end
section
open Go Go.RowKit
section
variable {P:Program} {ops:Array Oper} {Q:Exit->Act->World->Prop} {md:Region.Mode} {S:World->Prop} {k:Nat} {oi:Oper} {v:Value} {fuel:Nat} {listed:Array Bool} {a:Act} {w:World}
theorem tH (i:Nat) {a':Act} {l':Array Bool} (h:wpAnyH P md ops Q S fuel l' a' w) (hi:ops[i]?=some oi:=by rfl) (hs:Region.noSelect ops=true:=by kernel_rfl) (hf:Region.free md ops listed i=true:=by kernel_rfl) (hr:(Region.ready md ops listed).contains i=true:=by kernel_rfl)
  (hQ:∀ c a w,Q (.panic c) (a.put oi.dst v) w->Q (.panic c) a w:=by exact fun _ _ _ h=>h) (hg:Region.wanted oi (yielded ops a.tmps)=true:=by rfl)
  (hy:∀ w,S w->(execOp a.eval oi).run P w = .ok (.value v) w:=by intro wS a0;(try dsimp only at a0);go_simp;try with_reducible rfl) (hS:S w:=by assumption)
  (ha:a.put oi.dst v=a':=by first | (simp only [List.getElem_toArray,List.getElem_cons_zero,List.getElem_cons_succ,Act.put,List.setIfInBounds_toArray,List.set_cons_zero,List.set_cons_succ];done) | (simp only [List.getElem_toArray,List.getElem_cons_zero,List.getElem_cons_succ,Act.put,List.setIfInBounds_toArray,List.set_cons_zero,List.set_cons_succ];rfl) | rfl) (hl:listed.setIfInBounds i true=l':=by first | (simp only [List.getElem_toArray,List.getElem_cons_zero,List.getElem_cons_succ,Act.put,List.setIfInBounds_toArray,List.set_cons_zero,List.set_cons_succ];done) | (simp only [List.getElem_toArray,List.getElem_cons_zero,List.getElem_cons_succ,Act.put,List.setIfInBounds_toArray,List.set_cons_zero,List.set_cons_succ];rfl) | rfl):wpAnyH P md ops Q S (fuel+1) listed a w :=
 wpAnyH_take hi hs hf hr hQ (Or.inl ⟨hg,hy⟩) hS (by rw [ha,hl];exact h)
theorem sH (i:Nat) {a':Act} {l':Array Bool} (h:wpAnyH P md ops Q S fuel l' a' w) (hi:ops[i]?=some oi:=by rfl) (hs:Region.noSelect ops=true:=by kernel_rfl) (hf:Region.free md ops listed i=true:=by kernel_rfl) (hr:(Region.ready md ops listed).contains i=true:=by kernel_rfl)
  (hQ:∀ c a w,Q (.panic c) (a.put oi.dst undef) w->Q (.panic c) a w:=by exact fun _ _ _ h=>h) (hg:Region.wanted oi (yielded ops a.tmps)=false:=by rfl) (hS:S w:=by assumption)
  (ha:a.put oi.dst undef=a':=by first | (simp only [List.getElem_toArray,List.getElem_cons_zero,List.getElem_cons_succ,Act.put,List.setIfInBounds_toArray,List.set_cons_zero,List.set_cons_succ];done) | (simp only [List.getElem_toArray,List.getElem_cons_zero,List.getElem_cons_succ,Act.put,List.setIfInBounds_toArray,List.set_cons_zero,List.set_cons_succ];rfl) | rfl) (hl:listed.setIfInBounds i true=l':=by first | (simp only [List.getElem_toArray,List.getElem_cons_zero,List.getElem_cons_succ,Act.put,List.setIfInBounds_toArray,List.set_cons_zero,List.set_cons_succ];done) | (simp only [List.getElem_toArray,List.getElem_cons_zero,List.getElem_cons_succ,Act.put,List.setIfInBounds_toArray,List.set_cons_zero,List.set_cons_succ];rfl) | rfl):wpAnyH P md ops Q S (fuel+1) listed a w :=
 wpAnyH_take hi hs hf hr hQ (Or.inr ⟨hg,rfl⟩) hS (by rw [ha,hl];exact h)
theorem tK (i:Nat) {a':Act} {l':Array Bool} (h:zc9 P md ops Q S k fuel l' a' w) (hi:ops[i]?=some oi:=by rfl) (hs:Region.noSelect ops=true:=by kernel_rfl) (hf:Region.free md ops listed i=true:=by kernel_rfl) (hr:(Region.ready md ops listed).contains i=true:=by kernel_rfl)
  (hc:(closedB md ops listed && reachB md ops 12 i k && (i != k))=true:=by kernel_rfl)
  (hQ:∀ c a w,Q (.panic c) (a.put oi.dst v) w->Q (.panic c) a w:=by exact fun _ _ _ h=>h) (hg:Region.wanted oi (yielded ops a.tmps)=true:=by rfl)
  (hy:∀ w,S w->(execOp a.eval oi).run P w = .ok (.value v) w:=by intro wS a0;(try dsimp only at a0);go_simp;try with_reducible rfl) (hS:S w:=by assumption)
  (ha:a.put oi.dst v=a':=by first | (simp only [List.getElem_toArray,List.getElem_cons_zero,List.getElem_cons_succ,Act.put,List.setIfInBounds_toArray,List.set_cons_zero,List.set_cons_succ];done) | (simp only [List.getElem_toArray,List.getElem_cons_zero,List.getElem_cons_succ,Act.put,List.setIfInBounds_toArray,List.set_cons_zero,List.set_cons_succ];rfl) | rfl) (hl:listed.setIfInBounds i true=l':=by first | (simp only [List.getElem_toArray,List.getElem_cons_zero,List.getElem_cons_succ,Act.put,List.setIfInBounds_toArray,List.set_cons_zero,List.set_cons_succ];done) | (simp only [List.getElem_toArray,List.getElem_cons_zero,List.getElem_cons_succ,Act.put,List.setIfInBounds_toArray,List.set_cons_zero,List.set_cons_succ];rfl) | rfl):zc9 P md ops Q S k (fuel+1) listed a w :=
 wpAnyK_take hi hs hf hr hc hQ (Or.inl ⟨hg,hy⟩) hS (by rw [ha,hl];exact h)
theorem t0 (i:Nat) {a':Act} {l':Array Bool} (h:zc9 P md ops Q S k fuel l' a' w) (hi:ops[i]?=some oi:=by rfl) (hs:Region.noSelect ops=true:=by kernel_rfl) (hf:Region.free md ops listed i=true:=by kernel_rfl) (hr:(Region.ready md ops listed).contains i=true:=by kernel_rfl)
  (hik:i≠k:=by decide)
  (hQ:∀ c a w,Q (.panic c) (a.put oi.dst v) w->Q (.panic c) a w:=by exact fun _ _ _ h=>h) (hg:Region.wanted oi (yielded ops a.tmps)=true:=by rfl)
  (hy:∀ w,True->(execOp a.eval oi).run P w = .ok (.value v) w:=by intro wS a0;(try dsimp only at a0);go_simp;try with_reducible rfl)
  (hS:listed.getD k false=false->S w:=by first | exact fun _=>by assumption | exact fun h=>absurd h (by decide))
  (ha:a.put oi.dst v=a':=by first | (simp only [List.getElem_toArray,List.getElem_cons_zero,List.getElem_cons_succ,Act.put,List.setIfInBounds_toArray,List.set_cons_zero,List.set_cons_succ];done) | (simp only [List.getElem_toArray,List.getElem_cons_zero,List.getElem_cons_succ,Act.put,List.setIfInBounds_toArray,List.set_cons_zero,List.set_cons_succ];rfl) | rfl) (hl:listed.setIfInBounds i true=l':=by first | (simp only [List.getElem_toArray,List.getElem_cons_zero,List.getElem_cons_succ,Act.put,List.setIfInBounds_toArray,List.set_cons_zero,List.set_cons_succ];done) | (simp only [List.getElem_toArray,List.getElem_cons_zero,List.getElem_cons_succ,Act.put,List.setIfInBounds_toArray,List.set_cons_zero,List.set_cons_succ];rfl) | rfl):zc9 P md ops Q S k (fuel+1) listed a w :=
 wpAnyK_take0 hi hs hf hr hik hQ (Or.inl ⟨hg,hy⟩) hS (by rw [ha,hl];exact h)
end
end
section
open Go.RowKit
section
variable {P:Program} {w:World}
theorem zi6 {T len e:Nat} {k:IntKind} {i:Int} {cs:Array Value} {v:Value} (hu:P.underlying T=some (.array len e)) (he:P.plainKey e=true)
  (hs:∀ w,(Go.sizeOf e).run P w = .ok 1 w) (h0:0<=i) (h1:i<len) (hv:cs[i.toNat]?=some v) (w:World) :
  (Instr.index T (.agg cs) (.int k i)).run P w = .ok v w:=by
 simp [Instr.index,asIntOf,run_underlying hu,h0,h1,hs,run_part_plain w he hv]
theorem quiet_eq {f:FuncId} {args:Array Value} {n:Nat} {v:Value}
  (h:Calls P f args (w.drewN n) fun e w'=>e = .returned v/\w.drewN n=w'):Calls P f args (w.drewN n) fun e w''=>e = .returned v/\∃ m,w''=w.drewN m :=
 h.mono fun _ _ ⟨he,hm⟩=>⟨he,n,hm.symm⟩
end
theorem bcell {W w1:World} (hb:Below W.heap.size W w1):(∀ b o,b<W.heap.size->w1.cell? ⟨b,o,none⟩=W.cell? ⟨b,o,none⟩)/\(∀ b o,b<W.heap.size->w1.frozen? ⟨b,o,none⟩=W.frozen? ⟨b,o,none⟩) :=
 ⟨fun b o h=>hb.cell (p:=⟨b,o,none⟩) h,fun b o h=>hb.frozen (p:=⟨b,o,none⟩) h⟩
theorem zad {w:World} {b i:Nat} {v:Value} {cs:Array Value} {t:TypeId} {fr:Nat × Nat} (h:w.heap[b]?=some (.cells cs t fr)) :
  (w.setCell ⟨b,i,none⟩ v).heap[b]?=some (.cells (cs.setIfInBounds i v) t fr):=by
 have a0:b<w.heap.size:=by
  rcases Nat.lt_or_ge b w.heap.size with h' | h'
  ·exact h'
  ·simp [Array.getElem?_eq_none h'] at h
 have h':w.heap[b] = .cells cs t fr:=by simpa [Array.getElem?_eq_getElem a0] using h
 show (w.heap.modify b _)[b]?=_;rw [Array.getElem?_eq_getElem (by simpa using a0),Array.getElem_modify_self,h'];rfl
theorem zac {w:World} {k:Nat} {o:Obj} (h:k=w.heap.size):(w.alloc o).heap[k]?=some o:=by rw [h];exact heap_alloc_new w o
theorem zaf {w:World} {k:Nat} {o o':Obj} (h:w.heap[k]?=some o'):(w.alloc o).heap[k]?=some o':=by
 have a0:k<w.heap.size:=by
  rcases Nat.lt_or_ge k w.heap.size with h' | h'
  ·exact h'
  ·simp [Array.getElem?_eq_none h'] at h
 rw [heap_alloc_old w o a0];exact h
theorem zan {w:World} {b:Nat} {x y z:Value} {t:TypeId} {fr:Nat × Nat} (h:w.heap[b]?=some (.cells #[x,y,z] t fr)) :
  w.cell? ⟨b,0,none⟩=some x/\w.cell? ⟨b,1,none⟩=some y/\w.cell? ⟨b,2,none⟩=some z:=by
 refine ⟨?_,?_,?_⟩ <;> (rw [cell_of_row _ _ _ _ _ _ h];rfl)
theorem free3 {w:World} {b:Nat} {cs:Array Value} {t:TypeId} (h:w.heap[b]?=some (.cells cs t (0,0))) :
  w.frozen? ⟨b,0,none⟩=false/\w.frozen? ⟨b,1,none⟩=false/\w.frozen? ⟨b,2,none⟩=false:=⟨frozen_of_row _ _ _ _ _ h,frozen_of_row _ _ _ _ _ h,frozen_of_row _ _ _ _ _ h⟩
theorem zbu (b o j:Nat):(⟨b,o,none⟩:Addr).add j=⟨b,o+j,none⟩:=by unfold Addr.add;split <;> simp_all
theorem zaa {w:World} {k:Nat} {o:Obj} (h:w.heap[k]?=some o):k<w.heap.size:=(Array.getElem?_eq_some_iff.1 h).1
def IsRow (k:IntKind) (w:World) (a:Option Addr) (len cap:Nat) (zs:List Int):Prop :=
 (a=none/\len=0/\cap=0/\zs=[]) \/
 ∃ x,a=some x/\len<=cap/\cap<=maxLen/\zs.length=cap/\(∀ i,i<zs.length->w.cell? (x.add i)=some (.int k (zs.getD i 0)))/\∀ n∈zs,(Lit.int k n).wf=true
theorem IsRow.read {k:IntKind} {w:World} {a:Option Addr} {len cap:Nat} {zs:List Int} (h:IsRow k w a len cap zs) :
  0<len->∃ b off,a=some ⟨b,off,none⟩/\b<w.heap.size/\∀ i,i<len->∃ x:Int,w.cell? ⟨b,off+i,none⟩=some (.int k x):=by
 intro h0
 rcases h with ⟨_,h1,_⟩ | ⟨x,rfl,hl,hm,hz,hc,_⟩
 ·omega
 ·obtain ⟨b,off,spot⟩:=x
  have hs:spot=none:=by
   have:=hc 0 (by omega);cases spot with
   | none=>rfl
   | some s =>
    exfalso;have he:((⟨b,off,some s⟩:Addr).add 0).spot.isSome=true:=by unfold Addr.add;split <;> simp_all
    unfold World.cell? at this;split at this
    ·rw [if_pos he] at this;cases this
    ·cases this
  subst hs
  refine ⟨b,off,rfl,?_,fun i hi=>⟨zs.getD i 0,by rw [<- zbu];exact hc i (by omega)⟩⟩
  have:=hc 0 (by omega);rw [zbu] at this;exact World.block_lt_of_cell? _ _ this
theorem zam {w:World} {b:Nat} {a:Addr} {v:Value} {o:Obj} (h:w.heap[b]?=some o) (hn:b≠a.block):(w.setCell a v).heap[b]?=some o:=by
 rw [heap_setCell_other _ _ _ _ hn];exact h
theorem zab {W w1:World} {B b:Nat} {o:Obj} (hb:Below B W w1) (h:b<B) (ho:W.heap[b]?=some o):w1.heap[b]?=some o:=(hb.block b h).trans ho
theorem xhh {w a b:World} (h:Hid (Below w.heap.size w a)) (k:Below a.heap.size a b):Hid (Below w.heap.size w b):=zjy (h.o.trans (k.mono h.o.size))
theorem xal {w W:World} {o:Obj} (h:W=w.alloc o):Below w.heap.size w W:=by rw [h];exact (Below.refl _ _).alloc xnl _
theorem xam {w W:World} {o p:Obj} (h:W=(w.alloc o).alloc p):Below w.heap.size w W:=by rw [h];exact ((Below.refl _ _).alloc xnl _).alloc (by simp) _
theorem xbn {w w1:World} {cs:Array Value} {t:TypeId} (hb:Below (w.alloc (.cells cs t)).heap.size (w.alloc (.cells cs t)) w1):w1.heap[w.heap.size]?=some (.cells cs t (0,0)):=zab hb (by simp) (zac rfl)
theorem xbt {w w1:World} {o:Obj} (hb:Below (w.alloc o).heap.size (w.alloc o) w1):Below w.heap.size w w1:=((Below.refl w.heap.size w).alloc xnl o).trans (hb.mono (by simp))
section
variable {P:Program} {w:World} {fn:Func} {p u:Tmp} {ty:TypeId} {tmps:Array Value} {g:Nat} {t:TypeId} {cs:Array Value} {fr:Nat × Nat} {d:TypeDesc} {R:Ending->World->Prop}
theorem results_cell_row2 (h:fn.results=#[.cell p ty,.tmp u]) (hp:tmps.getD p undef = .pointer (some ⟨g,0,none⟩)) (hg:w.heap[g]?=some (.cells cs t fr))
  (hu:P.underlying ty=some d) (hd:(match d with | .struct _ | .array _ _=>true | _=>false)=true) (hi:(P.info? ty).map (·.size)=some cs.size) :
  (results fn tmps).run P w = .ok (.tuple #[.agg cs,tmps.getD u undef]) w:=by
 have a0:tmps[p]?.getD undef = .pointer (some ⟨g,0,none⟩):=by simpa using hp
 simp [results,h,a0,asAddr,run_loadVar_row w g t ty cs fr d hg hu hd hi]
theorem zai (h:fn.results=#[.cell p ty,.tmp u]) (hp:tmps.getD p undef = .pointer (some ⟨g,0,none⟩)) (hg:w.heap[g]?=some (.cells cs t fr))
  (hu:P.underlying ty=some d) (hd:(match d with | .struct _ | .array _ _=>true | _=>false)=true) (hi:(P.info? ty).map (·.size)=some cs.size)
  (hR:R (.returned (.tuple #[.agg cs,tmps.getD u undef])) w):bodyPost P fn R .ret { tmps,defers:=[] } w :=
 bodyPost_ret (results_cell_row2 h hp hg hu hd hi) rfl hR
theorem za5 (h:fn.results=#[.cell p ty]) (hp:tmps.getD p undef = .pointer (some ⟨g,0,none⟩)) (hg:w.heap[g]?=some (.cells cs t fr))
  (hu:P.underlying ty=some d) (hd:(match d with | .struct _ | .array _ _=>true | _=>false)=true) (hi:(P.info? ty).map (·.size)=some cs.size)
  (hR:R (.returned (.agg cs)) w):bodyPost P fn R .ret { tmps,defers:=[] } w :=
 bodyPost_ret (results_cell_row h tmps w g t cs fr d hp hg hu hd hi) rfl hR
end
theorem zdg {k:Nat} (h:k<=1099511627776):k<=maxLen:=by unfold maxLen;omega
theorem zay {P:Program} {w:World} {ops:Array Oper} {rest:List Oper} {o:Oper} {a:Act} {Q:Exit->Act->World->Prop} (hgd:o.guard=none) (s x:Operand) (t:TypeId)
  (ho:o.op = .call { callee:=.builtin .append,args:=#[s,x],argTypes:=#[t,t] })
  (base:Nat) (e:TypeId) (size bytes:Nat) (z:Value) (ht:P.underlying t=some (.slice e)) (hinfo:(P.info? e).map (fun i=>(i.zero,i.size,i.bytes))=some (some z,size,bytes))
  (hzs:z.cells.size=size) (hsz:0<size) (hby:bytes<=128)
  (v:Value) (n:Nat) (xs:List Value) (hs:a.eval s=v) (hown:w.ownsRow base e size v n xs)
  (cs:Array Value) (c:Nat) (hx:a.eval x = .slice (some ⟨w.heap.size,0,none⟩) 1 c) (hcs:cs.size=size) (h1:∀ u∈cs.toList,u.oneCell'=true)
  (hn:n<1099511627776) (hbase:base<=w.heap.size)
  (h:∀ v' w',w'.ownsRow base e size v' (n+1) (xs++cs.toList)->(∀ W,Below base W w->Below base W w')->wpList P ops Q rest (a.put o.dst v') w') :
  wpList P ops Q (o :: rest) a (w.alloc (.cells cs e)):=by
 obtain ⟨i,hi,hz,h2,h3⟩:=info_parts hinfo;refine wpList_append_own _ hgd s x t ho base e i z size bytes ht hi hz h2 h3 hzs hsz v n xs hs (hown.alloc _) ⟨w.heap.size,0,none⟩ 1 c cs.toList hx (by simp [hcs]) ?_ h1 (zdg (by omega)) ?_ (by simp;omega) ?_
 ·intro j u hu
  have:(⟨w.heap.size,0,none⟩:Addr).add j=⟨w.heap.size,j,none⟩:=by unfold Addr.add;split <;> simp_all
  rw [this,cell_of_row _ _ _ _ _ _ (heap_alloc_new w _)];simpa using hu
 ·exact Nat.le_trans (Nat.mul_le_mul (Nat.le_of_lt_succ (by omega:n+1<1099511627776+1)) hby) (by decide)
 ·intro v' w' a0 hg _
  refine h v' w' a0 fun W hW=>(hW.alloc hbase _).grown hg (by simp;omega) ?_
  intro k hk;exact (hown.lt k hk).1
def zga (c:UInt8):Value:=.int .u8 (c.toNat:Int)
theorem zce {P:Program} {w:World} {B:Nat} {src dst e:TypeId} {v:Value} {n:Nat} (l:List UInt8) (hown:w.ownsRow B e 1 v n (l.map zga))
  (hs:P.underlying src=some (.slice e)) (he:P.underlying e=some (.int .u8)) (hd:P.underlying dst=some .string) :
  (convert src dst v).run P w = .ok (.string ⟨l.toArray⟩) w:=by
 obtain ⟨hl,h⟩:=hown;have a0:l.length=n:=by simpa using hl
 rcases h with ⟨rfl,h0⟩ | ⟨g,cap,cur,rfl,hg,hh,hn,hc,hsz,ht⟩
 ·subst h0
  have:l=[]:=List.length_eq_zero_iff.1 a0;subst this;exact run_convert_bytes_nil w src e hs he 0 0 dst hd
 ·have e1:(strOfNums (l.map fun c=>(c.toNat:Int)))=⟨l.toArray⟩:=by
   unfold strOfNums;congr 2;rw [List.map_map];conv=>rhs;rw [<- List.map_id l]
   refine List.map_congr_left fun c _=>?_
   simp
  rw [<- e1]
  refine run_convert_bytes_arg w src e hs he g 0 n cap (l.map fun c=>(c.toNat:Int)) (by simpa using a0) (fun i hi=>?_) dst hd
  have a1:i<l.length:=by omega
  rw [cell_of_row w g (0+i) cur e (0,0) hh,Nat.zero_add]
  have:cur.toList[i]?=(l.map zga)[i]?:=by
   rw [<- ht,List.getElem?_take];simp [hi]
  rw [<- Array.getElem?_toList,this];simp [a1,zga]
theorem zim {k:IntKind} {a b:Int} (h:a=b):Ending.returned (.int k a) = .returned (.int k b):=by rw [h]
theorem zax {a b:Bool} (h:a=b):Ending.returned (.bool a) = .returned (.bool b):=by rw [h]
end
section
open Go.RowKit
theorem zal {P:Program} {c:Code} {Q:Exit->Act->World->Prop} {a:Act} {W:World} (h:∀ w',w'=W->c.wp P Q a w'):c.wp P Q a W:=h W rfl
end
section
def zf4:Nat->Nat->Nat
 | 0,_=>0
 | k+1,x=>x % 2+zf4 k (x / 2)
theorem zft:∀ k x,zf4 k x<=k
 | 0,_=>by simp [zf4]
 | k+1,x=>by have:=zft k (x / 2);simp only [zf4];omega
theorem zgb (j:Nat):∀ k x,zf4 (j+k) x=zf4 j x+zf4 k (x / 2 ^ j):=by
 induction j with
 | zero=>intro k x;simp [zf4]
 | succ j ih =>
  intro k x;rw [show j+1+k=(j+k)+1 by omega];simp only [zf4];rw [ih k (x / 2),Nat.div_div_eq_div_mul,show 2*2 ^ j=2 ^ (j+1) by rw [Nat.pow_succ,Nat.mul_comm]];omega
theorem popK_mod (k:Nat):∀ x,zf4 k (x % 2 ^ k)=zf4 k x:=by
 induction k with
 | zero=>intro x;simp [zf4]
 | succ k ih =>
  intro x;simp only [zf4];rw [show x % 2 ^ (k+1) % 2=x % 2 by rw [Nat.pow_succ,Nat.mul_comm,Nat.mod_mul_right_mod]];rw [show x % 2 ^ (k+1) / 2=(x / 2) % 2 ^ k by rw [Nat.pow_succ,Nat.mul_comm,Nat.mod_mul_right_div_self]];rw [ih]
def zf7 (p:Nat):Nat->Nat
 | 0=>0
 | k+1=>256*zf7 p k+p
theorem zht (a b:Nat):a &&& b=256*((a / 256) &&& (b / 256))+((a % 256) &&& (b % 256)):=by
 have h1:=Nat.and_div_two_pow (a:=a) (b:=b) (n:=8);have h2:=Nat.and_mod_two_pow (a:=a) (b:=b) (n:=8);have h3:=Nat.div_add_mod (a &&& b) 256;rw [show (256:Nat)=2 ^ 8 by decide] at h3 ⊢;rw [<- h1,<- h2];exact h3.symm
theorem and_low {a p n:Nat} (hp:p<2 ^ n):a &&& p=(a % 2 ^ n) &&& p:=by
 have h:=Nat.and_mod_two_pow (a:=a) (b:=p) (n:=n);rw [Nat.mod_eq_of_lt hp,Nat.mod_eq_of_lt (Nat.lt_of_le_of_lt Nat.and_le_right hp)] at h;exact h
def s1 (k x:Nat):Nat:=(x / 2 &&& zf7 85 k)+(x &&& zf7 85 k)
def s2 (k x:Nat):Nat:=(x / 4 &&& zf7 51 k)+(x &&& zf7 51 k)
def s3 (k x:Nat):Nat:=(x / 16+x) &&& zf7 15 k
theorem mask_div (p k:Nat) (hp:p<256):zf7 p (k+1) / 256=zf7 p k:=by simp only [zf7];omega
theorem mask_mod (p k:Nat) (hp:p<256):zf7 p (k+1) % 256=p:=by simp only [zf7];omega
theorem s1_step (k x:Nat):s1 (k+1) x=256*s1 k (x / 256)+s1 1 (x % 256):=by
 unfold s1;rw [zht (x / 2),zht x (zf7 85 (k+1)),mask_div 85 k (by decide),mask_mod 85 k (by decide)];have e1:x / 2 / 256=x / 256 / 2:=by omega
 have e2:(x / 2 % 256) &&& 85=(x % 256 / 2) &&& 85:=by
  rw [and_low (a:=x / 2 % 256) (p:=85) (n:=7) (by decide),and_low (a:=x % 256 / 2) (p:=85) (n:=7) (by decide)];congr 1;omega
 rw [e1,e2,show zf7 85 1=85 by decide];omega
theorem s2_step (k x:Nat):s2 (k+1) x=256*s2 k (x / 256)+s2 1 (x % 256):=by
 unfold s2;rw [zht (x / 4),zht x (zf7 51 (k+1)),mask_div 51 k (by decide),mask_mod 51 k (by decide)];have e1:x / 4 / 256=x / 256 / 4:=by omega
 have e2:(x / 4 % 256) &&& 51=(x % 256 / 4) &&& 51:=by
  rw [and_low (a:=x / 4 % 256) (p:=51) (n:=6) (by decide),and_low (a:=x % 256 / 4) (p:=51) (n:=6) (by decide)];congr 1;omega
 rw [e1,e2,show zf7 51 1=51 by decide];omega
theorem zjt:∀ c:Fin 256,s1 1 c.val<256/\s2 1 (s1 1 c.val)<256/\s2 1 (s1 1 c.val) % 16<=4/\s2 1 (s1 1 c.val)<=68/\((s2 1 (s1 1 c.val) / 16+s2 1 (s1 1 c.val)) % 16=zf4 8 c.val):=by decide +kernel
def t2 (k x:Nat):Nat:=s2 k (s1 k x)
theorem t2_step (k x:Nat):t2 (k+1) x=256*t2 k (x / 256)+t2 1 (x % 256):=by
 unfold t2;have hb:=(zjt ⟨x % 256,Nat.mod_lt _ (by decide)⟩).1;have hb':s1 1 (x % 256)<256:=hb;rw [s1_step,s2_step];congr 2
 ·congr 1;omega
 ·omega
theorem s3_step (k y d:Nat) (hd:d<=68) (hy:y % 16<=4):s3 (k+1) (256*y+d)=256*s3 k y+(d / 16+d) % 16:=by
 unfold s3;have e0:(256*y+d) / 16+(256*y+d)=256*(y / 16+y)+(16*(y % 16)+d / 16+d):=by omega
 have e1:((256*y+d) / 16+(256*y+d)) / 256=y / 16+y:=by omega
 have e2:((256*y+d) / 16+(256*y+d)) % 256=16*(y % 16)+d / 16+d:=by omega
 rw [zht,e1,e2,mask_div 15 k (by decide),mask_mod 15 k (by decide)];rw [show (15:Nat)=2 ^ 4 - 1 by decide,Nat.and_two_pow_sub_one_eq_mod];congr 1;omega
theorem t2_low (k x:Nat):t2 k x % 16<=4:=by
 cases k with
 | zero=>simp [t2,s2,zf7]
 | succ k =>
  rw [t2_step];have hb:=(zjt ⟨x % 256,Nat.mod_lt _ (by decide)⟩).2.2.1;have hb':t2 1 (x % 256) % 16<=4:=hb;omega
theorem zhb (k x:Nat):s3 (k+1) (t2 (k+1) x)=256*s3 k (t2 k (x / 256))+zf4 8 (x % 256):=by
 have hb:=zjt ⟨x % 256,Nat.mod_lt _ (by decide)⟩;have a0:t2 1 (x % 256)<=68:=hb.2.2.2.1;rw [t2_step,s3_step k _ _ a0 (t2_low k _)];congr 1;exact hb.2.2.2.2
theorem s1_lt:∀ k x,s1 k x<256 ^ k
 | 0,x=>by simp [s1,zf7]
 | k+1,x=>by
  have hb:=(zjt ⟨x % 256,Nat.mod_lt _ (by decide)⟩).1;have hb':s1 1 (x % 256)<256:=hb;have ih:=s1_lt k (x / 256);rw [s1_step,Nat.pow_succ];omega
theorem t2_le:∀ k x,255*t2 k x+68<=68*256 ^ k
 | 0,x=>by simp [t2,s2,zf7]
 | k+1,x=>by
  have hb:=(zjt ⟨x % 256,Nat.mod_lt _ (by decide)⟩).2.2.2.1;have hb':t2 1 (x % 256)<=68:=hb;have ih:=t2_le k (x / 256);rw [t2_step,Nat.pow_succ];omega
theorem pop_bytes (x:Nat) (hx:x<18446744073709551616):zf4 64 x=zf4 8 (x % 256)+(zf4 8 (x / 256 % 256)+(zf4 8 (x / 65536 % 256)+(zf4 8 (x / 16777216 % 256)+(zf4 8 (x / 4294967296 % 256)+(zf4 8 (x / 1099511627776 % 256)+(zf4 8 (x / 281474976710656 % 256)+zf4 8 (x / 72057594037927936 % 256))))))):=by
 have e:=fun y=>popK_mod 8 y
 simp only [show (2:Nat) ^ 8=256 by decide] at e;rw [e,e,e,e,e,e,e,e];rw [show (64:Nat)=8+56 by decide,zgb,show (56:Nat)=8+48 by decide,zgb,show (48:Nat)=8+40 by decide,zgb,show (40:Nat)=8+32 by decide,zgb,show (32:Nat)=8+24 by decide,zgb,show (24:Nat)=8+16 by decide,zgb,show (16:Nat)=8+8 by decide,zgb];simp only [show (2:Nat) ^ 8=256 by decide,Nat.div_div_eq_div_mul,Nat.reduceMul]
theorem dv8 {y r e:Nat} (h:y=256*r+e) (he:e<256):y / 256=r:=by omega
theorem dv16 {y r q e f:Nat} (h:y=256*r+e) (h2:r=256*q+f) (he:e<256) (hf:f<256):y / 65536=q:=by omega
theorem dv32 {y r q u v e f g k:Nat} (h:y=256*r+e) (h2:r=256*q+f) (h3:q=256*u+g) (h4:u=256*v+k) (he:e<256) (hf:f<256) (hg:g<256) (hk:k<256):y / 4294967296=v:=by
 have h5:=dv16 h h2 he hf;have h6:=dv16 h3 h4 hg hk;rw [show (4294967296:Nat)=65536*65536 by decide,<- Nat.div_div_eq_div_mul,h5,h6]
theorem mx8 {y r p q e f:Nat} (h:y=256*r+e) (h2:p=256*q+f):y+p=256*(r+q)+(e+f):=by omega
theorem up8 {y r e B:Nat} (h:y=256*r+e) (hr:r<=B) (he:e<=8):y<=256*B+8:=by omega
theorem sum_end {c r e T:Nat} (h:c=256*r+e) (he:e=T) (hT:T<=64):c % 128=T:=by omega
theorem sum8 (e0 e1 e2 e3 e4 e5 e6 e7 y:Nat) (h0:e0<=8) (h1:e1<=8) (h2:e2<=8) (h3:e3<=8) (h4:e4<=8) (h5:e5<=8) (h6:e6<=8) (h7:e7<=8)
  (y1 y2 y3 y4 y5 y6:Nat) (g0:y=256*y1+e0) (g1:y1=256*y2+e1) (g2:y2=256*y3+e2) (g3:y3=256*y4+e3) (g4:y4=256*y5+e4) (g5:y5=256*y6+e5) (g6:y6=256*e7+e6) (a b c:Nat) (ha:a=y+y / 256) (hb:b=a+a / 65536) (hc:c=b+b / 4294967296) :
  (y<=578721382704613384/\c<9223372036854775808)/\c % 128=e0+(e1+(e2+(e3+(e4+(e5+(e6+e7)))))):=by
 have l0:y<=8*72340172838076673:=up8 g0 (up8 g1 (up8 g2 (up8 g3 (up8 g4 (up8 g5 (up8 g6 h7 h6) h5) h4) h3) h2) h1) h0;have la:a<=2*y:=by rw [ha];have:=Nat.div_le_self y 256;omega
 have lb:b<=2*a:=by rw [hb];have:=Nat.div_le_self a 65536;omega
 have lc:c<=2*b:=by rw [hc];have:=Nat.div_le_self b 4294967296;omega
 have bd:y<=578721382704613384/\c<9223372036854775808:=by clear g0 g1 g2 g3 g4 g5 g6 ha hb hc;omega
 refine ⟨bd,?_⟩;clear la lb lc bd l0;rw [dv8 g0 (by omega)] at ha;have m0:=mx8 g0 g1;have m1:=mx8 g1 g2;have m2:=mx8 g2 g3;have m3:=mx8 g3 g4;have m4:=mx8 g4 g5;have m5:=mx8 g5 g6;have m6:y6+e7=256*(e7+0)+(e6+e7):=mx8 g6 (show e7=256*0+e7 by omega);rw [<- ha] at m0;clear g0 g1 g2 g3 g4 g5 g6 ha;rw [dv16 m0 m1 (by omega) (by omega)] at hb;have q0:=mx8 m0 m2;have q1:=mx8 m1 m3;have q2:=mx8 m2 m4;have q3:=mx8 m3 m5;have q4:=mx8 m4 m6;rw [<- hb] at q0;clear m0 m1 m2 m3 m4 m5 m6 hb;rw [dv32 q0 q1 q2 q3 (by omega) (by omega) (by omega) (by omega)] at hc;have c0:=mx8 q0 q4;rw [<- hc] at c0;clear q0 q1 q2 q3 q4 hc;exact sum_end c0 (by omega) (by omega)
theorem pop_all (x:Nat) (hx:x<18446744073709551616) (a b c:Nat) (ha:a=s3 8 (t2 8 x)+s3 8 (t2 8 x) / 256) (hb:b=a+a / 65536) (hc:c=b+b / 4294967296):(s3 8 (t2 8 x)<=578721382704613384/\c<9223372036854775808)/\c % 128=zf4 64 x:=by
 have hs:s3 8 (t2 8 x)=256*(256*(256*(256*(256*(256*(256*zf4 8 (x / 72057594037927936 % 256)+zf4 8 (x / 281474976710656 % 256))+zf4 8 (x / 1099511627776 % 256))+zf4 8 (x / 4294967296 % 256))+zf4 8 (x / 16777216 % 256))+zf4 8 (x / 65536 % 256))+zf4 8 (x / 256 % 256))+zf4 8 (x % 256):=by
  rw [zhb,zhb,zhb,zhb,zhb,zhb,zhb,zhb];simp only [Nat.div_div_eq_div_mul,Nat.reduceMul];simp only [s3,zf7,Nat.and_zero,Nat.mul_zero,Nat.zero_add]
 rw [pop_bytes x hx];exact sum8 _ _ _ _ _ _ _ _ _ (zft 8 _) (zft 8 _) (zft 8 _) (zft 8 _) (zft 8 _) (zft 8 _) (zft 8 _) (zft 8 _) _ _ _ _ _ _ hs rfl rfl rfl rfl rfl rfl a b c ha hb hc
end
section
open Go.RowKit
theorem and_u (a m:Nat) (ha:a<18446744073709551616) (hm:m<18446744073709551616):bits .and .u64 (a:Int) (m:Int)=((a &&& m:Nat):Int):=by
 unfold bits;rw [IntKind.wrap_u64];have e1:(BitVec.ofInt 64 (a:Int)).toNat=a:=by rw [BitVec.toNat_ofInt];simp;omega
 have e2:(BitVec.ofInt 64 (m:Int)).toNat=m:=by rw [BitVec.toNat_ofInt];simp;omega
 have e3:((BitVec.ofInt 64 (a:Int)) &&& (BitVec.ofInt 64 (m:Int))).toNat=a &&& m:=by rw [BitVec.toNat_and,e1,e2]
 have e4:a &&& m<=a:=Nat.and_le_left;show ((((BitVec.ofInt 64 (a:Int)) &&& (BitVec.ofInt 64 (m:Int))).toNat:Nat):Int) % _=_;rw [e3];omega
theorem and_127 (a:Nat) (ha:a<9223372036854775808):bits .and .i64 (a:Int) 127=((a % 128:Nat):Int):=by
 unfold bits;rw [IntKind.wrap_i64];have e1:(BitVec.ofInt 64 (a:Int)).toNat=a:=by rw [BitVec.toNat_ofInt];simp;omega
 have e2:(BitVec.ofInt 64 127).toNat=127:=by decide
 have e3:((BitVec.ofInt 64 (a:Int)) &&& (BitVec.ofInt 64 127)).toNat=a % 128:=by
  rw [BitVec.toNat_and,e1,e2];exact Nat.and_two_pow_sub_one_eq_mod a 7
 show (((((BitVec.ofInt 64 (a:Int)) &&& (BitVec.ofInt 64 127)).toNat:Nat):Int)+_) % _ - _=_;rw [e3];omega
theorem wrapU {a:Int} {n:Nat} (h:a=(n:Int)) (hn:n<18446744073709551616):IntKind.u64.wrap a=(n:Int):=by
 rw [h,IntKind.wrap_u64];omega
theorem pop64_any (n:Nat) (w:World) (h:n<18446744073709551616):Calls prog 151 #[.int .u64 n] w fun e w'=>e = .returned (.int .i64 ((zf4 64 n:Nat):Int))/\w=w':=by
 obtain ⟨p,hp⟩:=xex (s1 8 n);obtain ⟨t,ht⟩:=xex (t2 8 n);obtain ⟨y,hy⟩:=xex (s3 8 t);obtain ⟨a,ha⟩:∃ a,a=y+y / 256:=⟨_,rfl⟩;obtain ⟨b,hb⟩:∃ b,b=a+a / 65536:=⟨_,rfl⟩;obtain ⟨c,hc⟩:∃ c,c=b+b / 4294967296:=⟨_,rfl⟩;have hq:s2 8 p=t:=by rw [<- hp,<- ht];rfl
 have lp:p<18446744073709551616:=by rw [<- hp];exact s1_lt 8 n
 have lt:t<=4919131752989213764:=by have:=t2_le 8 n;rw [ht] at this;omega
 obtain ⟨⟨ly,lc⟩,hk⟩:=pop_all n h a b c (by rw [ht,hy];exact ha) hb hc;rw [ht,hy] at ly;have m0:zf7 85 8=6148914691236517205:=by decide
 have m1:zf7 51 8=3689348814741910323:=by decide
 have m2:zf7 15 8=1085102592571150095:=by decide
 have g1:IntKind.u64.wrap (bits .and .u64 ((n:Int) / 2) 6148914691236517205+bits .and .u64 (n:Int) 6148914691236517205)=(p:Int):=by
  have e1:=and_u (n / 2) 6148914691236517205 (by omega) (by decide);have e2:=and_u n 6148914691236517205 h (by decide);have e3:((n / 2:Nat):Int)=(n:Int) / 2:=by omega
  rw [e3] at e1;refine wrapU ?_ lp;rw [<- hp];unfold s1;rw [m0,Int.natCast_add,<- e1,<- e2];rfl
 have g2:IntKind.u64.wrap (bits .and .u64 ((p:Int) / 4) 3689348814741910323+bits .and .u64 (p:Int) 3689348814741910323)=(t:Int):=by
  have e1:=and_u (p / 4) 3689348814741910323 (by omega) (by decide);have e2:=and_u p 3689348814741910323 lp (by decide);have e3:((p / 4:Nat):Int)=(p:Int) / 4:=by omega
  rw [e3] at e1;refine wrapU ?_ (by omega);rw [<- hq];unfold s2;rw [m1,Int.natCast_add,<- e1,<- e2];rfl
 have g3:bits .and .u64 (IntKind.u64.wrap ((t:Int) / 16+(t:Int))) 1085102592571150095=(y:Int):=by
  have e1:=and_u (t / 16+t) 1085102592571150095 (by omega) (by decide);have e3:IntKind.u64.wrap ((t:Int) / 16+(t:Int))=((t / 16+t:Nat):Int):=wrapU (by omega) (by omega);rw [e3,<- hy];unfold s3;rw [m2];exact e1
 have g4:IntKind.u64.wrap ((y:Int)+(y:Int) / 256)=(a:Int):=wrapU (by omega) (by omega);have g5:IntKind.u64.wrap ((a:Int)+(a:Int) / 65536)=(b:Int):=wrapU (by omega) (by omega);have g6:IntKind.u64.wrap ((b:Int)+(b:Int) / 4294967296)=(c:Int):=wrapU (by omega) (by omega);have g7:IntKind.i64.wrap (c:Int)=(c:Int):=by rw [IntKind.wrap_i64];omega
 have g8:bits .and .i64 (c:Int) 127=((zf4 64 n:Nat):Int):=by rw [and_127 c lc,hk]
 clear hp ht hy ha hb hc hq lp lt ly lc hk m0 m1 m2;go_enter func151,ntmps151
 go_wp2_with fail
 go_ret;exact ⟨rfl,rfl⟩
end
section
def zjl (a b:UInt8):Bool:=a == 195 && (128<=b && b<=191)
def zfl (a:UInt8):Bool:=32<=a && a<=126
def zcx:List UInt8->Bool
 | []=>true
 | [a]=>zfl a
 | a :: b :: r=>if zjl a b then zcx r else zfl a && zcx (b :: r)
def zf8 (a:UInt8):Bool:=97<=a && a<=122
def isUp (a:UInt8):Bool:=65<=a && a<=90
def isDgt (a:UInt8):Bool:=48<=a && a<=57
def zbn (a:UInt8):List UInt8:=if isUp a then [a+32] else if zf8 a || isDgt a then [a] else if a == 39 then [] else [32]
def replT:List (List UInt8) :=
  [[97],[97],[97],[97],[97],[97],[97,101],[99],[101],[101],[101],[101],[105],[105],[105],[105],
   [100],[110],[111],[111],[111],[111],[111],[],[111],[117],[117],[117],[117],[121],[116,104],[115,115],
   [97],[97],[97],[97],[97],[97],[97,101],[99],[101],[101],[101],[101],[105],[105],[105],[105],
   [100],[110],[111],[111],[111],[111],[111],[],[111],[117],[117],[117],[117],[121],[116,104],[121]]
def zic (b:UInt8):List UInt8:=replT.getD (b.toNat - 128) []
def rawL:List UInt8->List UInt8
 | []=>[]
 | [a]=>zbn a
 | a :: b :: r=>if zjl a b then zic b++rawL r else zbn a++rawL (b :: r)
def zbw:List UInt8->List UInt8->List (List UInt8)
 | p,[]=>if p=[] then [] else [p]
 | p,c :: r=>if c == 32 then (if p=[] then zbw [] r else p :: zbw [] r) else zbw (p++[c]) r
def zcu (l:List UInt8):List (List UInt8):=zbw [] l
def za2:List (List UInt8)->List UInt8
 | []=>[]
 | [a]=>a
 | a :: b :: r=>a++[32]++za2 (b :: r)
def za7 (l:List UInt8):List UInt8:=l.filter zf8
def zdi (l:List UInt8):Bool:=zcx l && decide (l.length<=64)
def zbx (l:List UInt8):List UInt8:=za2 (zcu (rawL l))
abbrev zak (l:List UInt8):Value:=.string ⟨l.toArray⟩
end
section
open Go.RowKit
def xr (a b:Int):Int:=bits .xor .u64 a b
def ad (a b:Int):Int:=IntKind.u64.wrap (a+b)
def zi8 (p q x:Int):Int:=bits .or .u64 (IntKind.u64.wrap (x*p)) (x / q)
structure Sip where
 a:Int
 b:Int
 c:Int
 d:Int
def rndP (s:Sip):Sip :=
 let a:=ad s.a s.b
 let b:=xr (zi8 8192 2251799813685248 s.b) a
 let a:=zi8 4294967296 4294967296 a
 let c:=ad s.c s.d
 let d:=xr (zi8 65536 281474976710656 s.d) c
 let a:=ad a d
 let d:=xr (zi8 2097152 8796093022208 d) a
 let c:=ad c b
 let b:=xr (zi8 131072 140737488355328 b) c
 ⟨a,b,zi8 4294967296 4294967296 c,d⟩
def wordP (s:Sip) (m:Int):Sip :=
 let s:=rndP (rndP ⟨s.a,s.b,s.c,xr s.d m⟩)
 ⟨xr s.a m,s.b,s.c,s.d⟩
def numP (i:Nat) (m:Int):List UInt8->Int
 | []=>m
 | x :: l=>numP (i+1) (bits .or .u64 m (IntKind.u64.wrap (IntKind.u64.wrap (x.toNat:Int)*2 ^ (8*i)))) l
def zjp (s:Sip) (l:List UInt8):Nat->Sip × List UInt8
 | 0=>(s,l)
 | n+1=>zjp (wordP s (numP 0 0 (l.take 8))) (l.drop 8) n
def sumP (ka kb:Int) (l:List UInt8):Int :=
 let p:=zjp ⟨xr ka 8317987319222330741,xr kb 7237128888997146477,xr ka 7816392313619706465,xr kb 8387220255154660723⟩ l (l.length / 8)
 let s:=wordP p.1 (bits .or .u64 (numP 0 0 p.2) (IntKind.u64.wrap ((l.length:Int)*72057594037927936)))
 let s:=rndP (rndP (rndP (rndP ⟨s.a,s.b,xr s.c 255,s.d⟩)))
 xr (xr (xr s.a s.b) s.c) s.d
def partP (t:List UInt8):List UInt8:=UInt8.ofNat (min t.length 65535 / 256) :: UInt8.ofNat (min t.length 65535) :: t.take 65535
def zdk (ka kb:Int) (L:List (List UInt8)):Int:=sumP ka kb (L.flatMap partP)
def zer (ka kb:Int) (l:List UInt8):Int × Int:=(zdk ka kb [l,[97]],zdk ka kb [l,[98]])
end
section
open Go.RowKit
theorem zdz (b:UInt8):zf8 b=decide (97<=(b.toNat:Int)/\(b.toNat:Int)<=122):=by
 unfold zf8;rw [Bool.eq_iff_iff];simp [UInt8.le_iff_toNat_le];try omega
theorem up_iff (b:UInt8):isUp b=decide (65<=(b.toNat:Int)/\(b.toNat:Int)<=90):=by
 unfold isUp;rw [Bool.eq_iff_iff];simp [UInt8.le_iff_toNat_le];try omega
theorem ze0 (b:UInt8):isDgt b=decide (48<=(b.toNat:Int)/\(b.toNat:Int)<=57):=by
 unfold isDgt;rw [Bool.eq_iff_iff];simp [UInt8.le_iff_toNat_le];try omega
theorem ok_iff (b:UInt8):zfl b=decide (32<=(b.toNat:Int)/\(b.toNat:Int)<=126):=by
 unfold zfl;rw [Bool.eq_iff_iff];simp [UInt8.le_iff_toNat_le];try omega
theorem zgp (b:UInt8) (w:World) :
  Calls prog 175 #[.int .u8 b.toNat] w fun e w'=>e = .returned (.bool (zf8 b))/\w=w':=by
 rw [zdz];have hb:=b.toNat_lt
 by_cases h1:97<=(b.toNat:Int) <;> by_cases h2:(b.toNat:Int)<=122
 all_goals
  go_enter func175,ntmps175
  go_wp2
  go_ret;exact ⟨zax (by simp;try omega),rfl⟩
theorem digit_any (b:UInt8) (w:World) :
  Calls prog 271 #[.int .u8 b.toNat] w fun e w'=>e = .returned (.bool (isDgt b))/\w=w':=by
 rw [ze0];have hb:=b.toNat_lt
 by_cases h1:48<=(b.toNat:Int) <;> by_cases h2:(b.toNat:Int)<=57
 all_goals
  go_enter func271,ntmps271
  go_wp2
  go_ret;exact ⟨zax (by simp;try omega),rfl⟩
def zdw:List UInt8->Bool
 | a :: b :: _=>zjl a b
 | _=>false
theorem zh0 (a b:UInt8):zjl a b=decide ((a.toNat:Int)=195/\128<=(b.toNat:Int)/\(b.toNat:Int)<=191):=by
 unfold zjl;rw [Bool.eq_iff_iff];simp [UInt8.le_iff_toNat_le,<- UInt8.toNat_inj];try omega
theorem zfn (s:ByteArray) (i:Nat) (h:i+1<s.size):s.data.toList.drop i=s[i] :: s[i+1] :: s.data.toList.drop (i+2):=by
 have hl:s.data.toList.length=s.size:=by simp
 rw [List.drop_eq_getElem_cons (by omega),List.drop_eq_getElem_cons (by omega)];rfl
theorem zho (s:ByteArray) (i:Nat) (h:i+1=s.size):s.data.toList.drop i=[s[i]]:=by
 have hl:s.data.toList.length=s.size:=by simp
 rw [List.drop_eq_getElem_cons (by omega),List.drop_eq_nil_of_le (by omega)];rfl
theorem pair_any (s:ByteArray) (i:Nat) (w:World) (hi:i<s.size) (hs:s.size<=9223372036854775807) :
  Calls prog 249 #[.string s,.int .i64 i] w fun e w'=>e = .returned (.bool (zdw (s.data.toList.drop i)))/\w=w':=by
 by_cases h2:i+1<s.size
 ·have H:=zjy (zfn s i h2)
  go_enter func249,ntmps249
  go_wp2
  all_goals
   go_ret;refine ⟨zax ?_,rfl⟩;go_light;rw [H.o];simp only [zdw];rw [zh0];clear H;simp_all;try omega
 ·have H:=zjy (zho s i (by omega))
  have hd:decide ((i:Int)+1<s.size)=false:=by simp;omega
  go_enter func249,ntmps249
  go_wp2
  all_goals
   go_ret;refine ⟨zax ?_,rfl⟩;rw [H.o];rfl
end
end Go.Proofs.YtgkaafncfjlooaaGreatDoor
section
namespace Go.Proofs.YtgkaafncfjlooaaGreatDoor
namespace Cal
def leapB (y:Int):Bool:=decide (y % 4=0) && (decide (y % 100≠0) || decide (y % 400=0))
def dim (y m:Int):Int :=
 if m=2 then (if leapB y=true then 29 else 28) else if m=4\/m=6\/m=9\/m=11 then 30 else 31
def vldB (y m d:Int):Bool:=decide (1800<=y/\y<=2199/\1<=m/\m<=12/\1<=d/\d<=dim y m)
def cum (y m:Int):Int :=
  if m<=1 then 0 else if m=2 then 31 else
    (if leapB y=true then 1 else 0)+(if m=3 then 59 else if m=4 then 90 else if m=5 then 120 else if m=6 then 151 else if m=7 then 181 else if m=8 then 212
      else if m=9 then 243 else if m=10 then 273 else if m=11 then 304 else if m=12 then 334 else 365)
def dby (y:Int):Int:=365*(y - 1800)+((y - 1) / 4 - 449) - ((y - 1) / 100 - 17)+((y - 1) / 400 - 4)
def num (y m d:Int):Int:=d - 1+cum y m+dby y
theorem dim_lo (y m:Int):28<=dim y m/\dim y m<=31:=by unfold dim;(repeat' split) <;> omega
theorem vld_iff (y m d:Int):vldB y m d=true ↔ (1800<=y/\y<=2199/\1<=m/\m<=12/\1<=d/\d<=dim y m):=by unfold vldB;simp
theorem vld_bd {y m d:Int} (h:vldB y m d=true):1800<=y/\y<=2199/\1<=m/\m<=12/\1<=d/\d<=31:=by
 have:=(vld_iff y m d).1 h;have:=dim_lo y m;omega
def zbd:Int->List UInt8->Option Int
 | n,[]=>some n
 | n,c :: cs=>if 48<=(c.toNat:Int)/\(c.toNat:Int)<=57 then zbd (10*n+((c.toNat:Int) - 48)) cs else none
theorem zii (l r:List UInt8):∀ n,zbd n (l++r)=(zbd n l).bind fun m=>zbd m r:=by
 induction l with
 | nil=>intro n;rfl
 | cons c cs ih=>intro n;simp only [List.cons_append,zbd];split <;> simp [ih]
theorem take_snoc (s:ByteArray) (k:Nat) (h:k<s.size):s.data.toList.take (k+1)=s.data.toList.take k++[s[k]]:=by
 rw [List.take_succ_eq_append_getElem (by simpa using h)];rfl
theorem zhi (s:ByteArray) (k:Nat) (h:k<s.size) (N:Int) (hN:zbd 0 (s.data.toList.take k)=some N) :
  zbd 0 (s.data.toList.take (k+1))=if 48<=(s[k].toNat:Int)/\(s[k].toNat:Int)<=57 then some (10*N+((s[k].toNat:Int) - 48)) else none:=by
 rw [take_snoc s k h,zii,hN];simp [zbd]
theorem zg0 (s:ByteArray) (k:Nat) (h:k<s.size) (N:Int) (hN:zbd 0 (s.data.toList.take k)=some N) (hb:¬ (48<=(s[k].toNat:Int)/\(s[k].toNat:Int)<=57)) :
  zbd 0 s.data.toList=none:=by
 have e:s.data.toList=s.data.toList.take (k+1)++s.data.toList.drop (k+1):=(List.take_append_drop _ _).symm;rw [e,zii,zhi s k h N hN,if_neg hb];rfl
def zeh (l:List UInt8):Int:=(zbd 0 l).getD (-1)
end Cal
end Go.Proofs.YtgkaafncfjlooaaGreatDoor
end
namespace Go.Proofs.YtgkaafncfjlooaaGreatDoor
section
open Go.RowKit Cal
theorem sz3:∀ w,(Go.sizeOf 3).run prog w = .ok 1 w:=fun _=>by kernel_rfl
theorem idx12 {k:Int} {cs:Array Value} {v:Value} (h0:0<=k) (h1:k<12) (hv:cs[k.toNat]?=some v) (w:World) :
  (Instr.index 304 (.agg cs) (.int .i64 k)).run prog w = .ok v w :=
 zi6 underlying304 (by kernel_rfl) sz3 h0 h1 hv w
theorem leap_any (y:Int) (w:World) (h:0<=y) :
  Calls prog 289 #[.int .i64 y] w fun e w'=>e = .returned (.bool (leapB y))/\w=w':=by
 go_enter func289,ntmps289
 go_wp2
 all_goals go_ret
 all_goals exact ⟨zax (by simp [leapB, *,Bool.beq_eq_decide_eq]),rfl⟩
theorem leap_yes (y:Int) (w:World) (h:0<=y) (hl:leapB y=true) :
  Calls prog 289 #[.int .i64 y] w fun e w'=>e = .returned (.bool true)/\w=w':=by
 have:=leap_any y w h;rwa [hl] at this
theorem leap_no (y:Int) (w:World) (h:0<=y) (hl:leapB y=false) :
  Calls prog 289 #[.int .i64 y] w fun e w'=>e = .returned (.bool false)/\w=w':=by
 have:=leap_any y w h;rwa [hl] at this
theorem days_feb (y:Int) (w:World) (h:0<=y) :
  Calls prog 275 #[.int .i64 y,.int .i64 2] w fun e w'=>e = .returned (.int .i64 (dim y 2))/\w=w':=by
 cases hl:leapB y with
 | true =>
  have e:dim y 2=29:=by simp [dim,hl]
  rw [e];clear e;have i0:=fun w cs v hv=>@idx12 1 cs v (by decide) (by decide) hv w
  go_enter func275,ntmps275
  go_wp2_with (go_at_call 289;refine (leap_yes _ _ h hl).mono ?_;rintro e w' ⟨rfl,rfl⟩)
  go_ret;exact ⟨rfl,rfl⟩
 | false =>
  have e:dim y 2=28:=by simp [dim,hl]
  rw [e];clear e;have i0:=fun w cs v hv=>@idx12 1 cs v (by decide) (by decide) hv w
  go_enter func275,ntmps275
  go_wp2_with (go_at_call 289;refine (leap_no _ _ h hl).mono ?_;rintro e w' ⟨rfl,rfl⟩)
  go_ret;exact ⟨rfl,rfl⟩
theorem tbl12 (m:Int) (h1:1<=m) (h2:m<=12) (h:m≠2) (y:Int) (w:World) :
  (Instr.index 304 (.agg #[.int .i64 31,.int .i64 28,.int .i64 31,.int .i64 30,.int .i64 31,.int .i64 30,.int .i64 31,.int .i64 31,.int .i64 30,.int .i64 31,.int .i64 30,.int .i64 31]) (.int .i64 (m - 1))).run prog w = .ok (.int .i64 (dim y m)) w:=by
 refine idx12 (by omega) (by omega) ?_ w;have:m=1\/m=3\/m=4\/m=5\/m=6\/m=7\/m=8\/m=9\/m=10\/m=11\/m=12:=by omega
 rcases this with rfl | rfl | rfl | rfl | rfl | rfl | rfl | rfl | rfl | rfl | rfl <;> rfl
theorem days_any (y m:Int) (w:World) (h:0<=y) (h1:1<=m) (h2:m<=12) :
  Calls prog 275 #[.int .i64 y,.int .i64 m] w fun e w'=>e = .returned (.int .i64 (dim y m))/\w=w':=by
 by_cases hm:m=2
 ·subst hm;exact days_feb y w h
 have i0:=fun w=>tbl12 m h1 h2 hm y w
 have hb:((m:Int) == 2)=false:=by simpa using hm
 clear hm;go_enter func275,ntmps275
 go_wp2
 go_ret;exact ⟨rfl,rfl⟩
theorem valid_no (y m d:Int) (w:World) (hv:vldB y m d=false) :
  Calls prog 258 #[.agg #[.int .i64 y,.int .i64 m,.int .i64 d]] w fun e w'=>e = .returned (.bool false)/\Below w.heap.size w w':=by
 have hh:decide (1800<=y)=false\/(1800<=y/\decide (y<=2199)=false)\/(1800<=y/\y<=2199/\decide (1<=m)=false)\/(1800<=y/\y<=2199/\1<=m/\decide (m<=12)=false)\/(1800<=y/\y<=2199/\1<=m/\m<=12/\decide (1<=d)=false)\/(1800<=y/\y<=2199/\1<=m/\m<=12/\1<=d/\decide (d<=dim y m)=false):=by
  have:=vld_iff y m d;rw [hv] at this;simp at this ⊢;omega
 clear hv
 rcases hh with h | ⟨_,h⟩ | ⟨_,_,h⟩ | ⟨_,_,_,h⟩ | ⟨_,_,_,_,h⟩ | ⟨_,_,_,_,_,h⟩
 iterate 5
  ·go_enter func258,ntmps258
   go_wp2
   go_quiet (fail)
   go_wp2
   go_ret;exact ⟨rfl,below_drewN ((Below.refl _ _).alloc xnl _) _⟩
 go_enter func258,ntmps258
 go_wp2
 go_quiet ((go_at_call 275;exact quiet_eq (days_any _ _ _ (by omega) (by omega) (by omega))))
 go_wp2
 go_ret;exact ⟨rfl,below_drewN ((Below.refl _ _).alloc xnl _) _⟩
theorem valid_yes (y m d:Int) (w:World) (hv:vldB y m d=true) :
  Calls prog 258 #[.agg #[.int .i64 y,.int .i64 m,.int .i64 d]] w fun e w'=>e = .returned (.bool true)/\Below w.heap.size w w':=by
 obtain ⟨h1,h2,h3,h4,h5,h6⟩:=(vld_iff y m d).1 hv;clear hv;go_enter func258,ntmps258
 go_wp2
 go_quiet ((go_at_call 275;exact quiet_eq (days_any _ _ _ (by omega) (by omega) (by omega))))
 go_wp2
 go_ret;exact ⟨rfl,below_drewN ((Below.refl _ _).alloc xnl _) _⟩
theorem number_any (s:ByteArray) (w:World) (hs:s.size<=4) :
  Calls prog 260 #[.string s] w fun e w'=>e = .returned (.int .i64 (zeh s.data.toList))/\w=w':=by
 go_enter func260,ntmps260
 go_wp2
 go_loop [3,4,7] (fun n _ i=>∃ (k:Nat) (N:Int),k<=s.size/\i = .int .i64 k/\n = .int .i64 N/\zbd 0 (s.data.toList.take k)=some N/\0<=N/\N<10 ^ k) (fun _ _ i=>s.size - (intOf i).toNat)
 case atStart=>exact ⟨0,0,Nat.zero_le _,rfl,rfl,rfl,by decide,by decide⟩
 case round =>
  obtain ⟨k,N,hk,rfl,rfl,hN,h0,h1⟩:=hrel;have HN:=zjy hN;clear hN
  have hp:(10:Int) ^ k<=10000:=by
   have:k=0\/k=1\/k=2\/k=3\/k=4:=by omega
   rcases this with rfl | rfl | rfl | rfl | rfl <;> decide
  have hN4:N<10000:=by omega
  have H1:=zjy h1;clear h1 hp;by_cases hlt:k<s.size
  ·go_wp2
   ·go_ret
    exact ⟨zim (by have:=zg0 s k hlt N HN.o (by omega);simp [zeh,this]),rfl⟩
   ·have hs:=zhi s k hlt N HN.o
    rw [if_pos ‹_›] at hs;have h1:=H1.o;have e1:(10:Int) ^ (k+1)=10 ^ k*10:=by rw [Int.pow_succ]
    go_round
    case rel=>exact ⟨k+1,_,by omega,by go_num,rfl,hs,by omega,by omega⟩
    case measure=>simp [intOf];omega
   ·go_ret
    exact ⟨zim (by have:=zg0 s k hlt N HN.o (by omega);simp [zeh,this]),rfl⟩
  ·go_wp2
   go_ret;obtain rfl:k=s.size:=by omega
   exact ⟨zim (by have:=HN.o;rw [List.take_of_length_le (by simp)] at this;simp [zeh,this]),rfl⟩
end
section
open Go.RowKit Cal
def pk (v:Bool) (y:Int):Int:=bif v then y else 0
def cd (v:Bool) (e:Int):Int:=bif v then 0 else e
theorem pk_false (y:Int):pk false y=0:=rfl
theorem cd_false (y:Int):cd false y=y:=rfl
theorem cd_true (y:Int):cd true y=0:=rfl
abbrev dateV (v:Bool) (y m d:Int) (e:Int):Value:=.tuple #[.agg #[.int .i64 (pk v y),.int .i64 (pk v m),.int .i64 (pk v d)],.int .i64 (cd v e)]
abbrev dateR (y m d:Int) (e:Int):Value:=dateV (vldB y m d) y m d e
theorem made_any (a b c:ByteArray) (w:World) (ha:a.size<=4) (hb:b.size<=4) (hc:c.size<=4) :
  Calls prog 236 #[.string a,.string b,.string c] w fun e w'=>e = .returned (dateR (zeh a.data.toList) (zeh b.data.toList) (zeh c.data.toList) 4)/\Below w.heap.size w w':=by
 unfold dateR dateV;cases hv:vldB (zeh a.data.toList) (zeh b.data.toList) (zeh c.data.toList)
 all_goals
  simp only [pk,cd,cond_true,cond_false];have HV:=zjy hv;clear hv;go_enter func236,ntmps236
  go_wp2_with fail
  refine (number_any _ _ ha).mono ?_;rintro e w' ⟨rfl,rfl⟩;go_wp2_with fail
  refine (number_any _ _ hb).mono ?_;rintro e w' ⟨rfl,rfl⟩;go_wp2_with fail
  refine (number_any _ _ hc).mono ?_;rintro e w' ⟨rfl,rfl⟩;go_wp2_with fail
  first | refine (valid_yes _ _ _ _ HV.o).mono ?_ | refine (valid_no _ _ _ _ HV.o).mono ?_
  rintro e w1 ⟨rfl,a0⟩;obtain ⟨hc1,hf1⟩:=bcell a0;have hz1:w.heap.size+1<w1.heap.size:=by have:=a0.size;simp at this;omega
  go_wp2
 all_goals
  have hg:w1.heap[w.heap.size]?=some (.cells #[.int .i64 0,.int .i64 0,.int .i64 0] 141 (0,0)):=zab a0 (by simp;omega) (heap_alloc2_old _ _ _);exact zai rfl rfl (zad (zad (zad hg))) underlying141 rfl (by kernel_rfl) ⟨rfl,((((((Below.refl _ _).alloc xnl _).alloc (by simp) _).trans (a0.mono (by simp;omega))).setCell (by simp) _).setCell (by simp) _).setCell (by simp) _⟩
abbrev dateL (y m d:List UInt8):Value:=dateR (zeh y) (zeh m) (zeh d) 4
theorem read_any (s:ByteArray) (w:World) :
  Calls prog 210 #[.string s] w fun e w'=>e = .returned (bif decide (s.size=8) then dateL (s.data.toList.take 4) ((s.data.toList.drop 4).take 2) ((s.data.toList.drop 6).take 2) else dateV false 0 0 0 4)/\Below w.heap.size w w':=by
 by_cases h:s.size=8
 ·have hs:((s.size:Int) == 8)=true:=by simp;omega
  simp only [h,decide_true,cond_true];go_enter func210,ntmps210
  go_wp2
  go_region_held3 (fun _=>True) (trivial) (first | (go_at_call 236;refine (made_any _ _ _ _ (by simp;omega) (by simp;omega) (by simp;omega)).mono ?_;rintro e w1 ⟨rfl,a0⟩;obtain ⟨hc1,hf1⟩:=bcell a0;have hz1:w.heap.size<w1.heap.size:=(by have:=a0.size;simp at this;omega)))
  go_wp2
  have hg:w1.heap[w.heap.size]?=some (.cells #[.int .i64 0,.int .i64 0,.int .i64 0] 141 (0,0)):=zab a0 (by simp) (heap_alloc_new _ _);exact zai rfl rfl (zad (zad (zad hg))) underlying141 rfl (by kernel_rfl) ⟨rfl,(((((Below.refl _ _).alloc xnl _).drew.trans (a0.mono (by simp))).setCell (by simp) _).setCell (by simp) _).setCell (by simp) _⟩
 ·have hs:((s.size:Int) == 8)=false:=by simp;omega
  simp only [h,decide_false,cond_false];go_enter func210,ntmps210
  go_wp2
  exact zai rfl rfl (heap_alloc_new _ _) underlying141 rfl (by kernel_rfl) ⟨rfl,((Below.refl _ _).alloc xnl _)⟩
def zgh (s:ByteArray) (i:Nat):Int:=((s.data.toList.getD i 0).toNat:Int)
def parseV (s:ByteArray):Value :=
 if s.size=10 then
  if zgh s 4=45/\zgh s 7=45 then dateL (s.data.toList.take 4) ((s.data.toList.drop 5).take 2) ((s.data.toList.drop 8).take 2)
  else if zgh s 2=46/\zgh s 5=46 then dateL ((s.data.toList.drop 6).take 4) ((s.data.toList.drop 3).take 2) (s.data.toList.take 2)
  else if zgh s 2=47/\zgh s 5=47 then dateL ((s.data.toList.drop 6).take 4) (s.data.toList.take 2) ((s.data.toList.drop 3).take 2)
  else dateV false 0 0 0 4
 else dateV false 0 0 0 4
theorem zek (s:ByteArray) (i:Nat) (h:i<s.size):zgh s i=(s[i].toNat:Int):=by
 have:i<s.data.toList.length:=by simpa using h
 simp only [zgh,List.getD_eq_getElem?_getD,List.getElem?_eq_getElem this];rfl
end
section
open Go.RowKit Cal
def dg:Int->Nat->List UInt8
 | _,0=>[]
 | n,k+1=>dg (n / 10) k++[UInt8.ofNat (48+(n % 10).toNat)]
theorem infoB:(prog.info? 5).map (fun i=>(i.zero,i.size,i.bytes))=some (some (.int .u8 0),1,1):=by kernel_rfl
def zd2 (y m d:Int):List UInt8:=dg y 4++dg m 2++dg d 2
end
section
open Go.RowKit
theorem drop_one (s:ByteArray) (i:Nat) (h:i<s.size):s.data.toList.drop i=s[i] :: s.data.toList.drop (i+1):=by
 have hl:s.data.toList.length=s.size:=by simp
 rw [List.drop_eq_getElem_cons (by omega)];rfl
theorem zhf (s:ByteArray) (i:Nat) (hi:i<s.size) (h:zdw (s.data.toList.drop i)=true):i+1<s.size:=by
 rcases Nat.lt_or_ge (i+1) s.size with h' | h'
 ·exact h'
 ·rw [zho s i (by omega)] at h;cases h
theorem valid_two (s:ByteArray) (i:Nat) (hi:i<s.size) (h:zdw (s.data.toList.drop i)=true):zcx (s.data.toList.drop i)=zcx (s.data.toList.drop (i+2)):=by
 have h2:=zhf s i hi h;rw [zfn s i h2] at h ⊢;simp only [zdw] at h;simp only [zcx,h,if_true]
theorem zgj (s:ByteArray) (i:Nat) (hi:i<s.size) (h:zdw (s.data.toList.drop i)=false):zcx (s.data.toList.drop i)=(zfl s[i] && zcx (s.data.toList.drop (i+1))):=by
 by_cases h2:i+1<s.size
 ·rw [zfn s i h2] at h ⊢
  simp only [zdw] at h;rw [zcx,h,drop_one s (i+1) h2];simp
 ·have hl:s.data.toList.length=s.size:=by simp
  rw [zho s i (by omega),List.drop_eq_nil_of_le (by omega)];simp [zcx]
theorem raw_two (s:ByteArray) (i:Nat) (hi:i+1<s.size) (h:zdw (s.data.toList.drop i)=true):rawL (s.data.toList.drop i)=zic s[i+1]++rawL (s.data.toList.drop (i+2)):=by
 rw [zfn s i hi] at h ⊢;simp only [zdw] at h;simp only [rawL,h,if_true]
theorem raw_one (s:ByteArray) (i:Nat) (hi:i<s.size) (h:zdw (s.data.toList.drop i)=false):rawL (s.data.toList.drop i)=zbn s[i]++rawL (s.data.toList.drop (i+1)):=by
 by_cases h2:i+1<s.size
 ·rw [zfn s i h2] at h ⊢
  simp only [zdw] at h;rw [rawL,h,drop_one s (i+1) h2];simp
 ·have hl:s.data.toList.length=s.size:=by simp
  rw [zho s i (by omega),List.drop_eq_nil_of_le (by omega)];simp [rawL]
theorem tvalid_any (s:ByteArray) (w:World) (hs:s.size<=9223372036854775000) :
  Calls prog 247 #[.string s] w fun e w'=>e = .returned (.bool (zdi s.data.toList))/\w=w':=by
 have hl:s.data.toList.length=s.size:=by simp
 have HL:=zjy hl;clear hl;unfold zdi;go_enter func247,ntmps247
 go_wp2_with fail
 go_loop [3] (fun i=>∃ k:Nat,k<=s.size/\i = .int .i64 k/\Hid (zcx s.data.toList=zcx (s.data.toList.drop k))) (fun i=>s.size - (intOf i).toNat)
 case atStart=>exact ⟨0,by omega,rfl,zjy rfl⟩
 case round =>
  obtain ⟨k,hk,rfl,HV⟩:=hrel;by_cases hlt:k<s.size
  ·have hq:decide ((k:Int)<s.size)=true:=by simp;omega
   go_wp2_with fail
   refine (pair_any s k _ hlt (by omega)).mono ?_;rintro e w' ⟨rfl,rfl⟩;cases hp:zdw (s.data.toList.drop k)
   ·have hv:=zjy (zgj s k hlt hp);rw [ok_iff] at hv
    have HP:=zjy hp;clear hp;go_wp2_with fail
    all_goals first
     | (go_ret;refine ⟨zax ?_,rfl⟩;go_light;rw [HV.o,hv.o,decide_eq_false (by omega)];rfl)
     | skip
    go_round
    case rel=>exact ⟨k+1,by omega,by go_num,zjy (HV.o.trans (by rw [hv.o,decide_eq_true (by omega)];rfl))⟩
    case measure=>simp [intOf];omega
   ·have h2:=zhf s k hlt hp
    have hv:=zjy (valid_two s k hlt hp);have HP:=zjy hp;clear hp;go_wp2_with fail
    go_round
    case rel=>exact ⟨k+2,by omega,by go_num,zjy (HV.o.trans hv.o)⟩
    case measure=>simp [intOf];omega
  ·go_wp2_with fail
   go_ret;obtain rfl:k=s.size:=by omega
   refine ⟨zax ?_,rfl⟩;rw [HV.o,List.drop_eq_nil_of_le (by rw [HL.o];omega)];simp [zcx];omega
theorem enc_one (n:Nat) (h:n<128):Utf8.encode (n:Int)=⟨[UInt8.ofNat n].toArray⟩:=by
 have v:Utf8.valid (n:Int)=true:=by simp [Utf8.valid];omega
 simp [Utf8.encode,v,h]
theorem enc_byte (b:UInt8) (n:Int) (h0:0<=n) (h:n<128) (hb:(b.toNat:Int)=n):Utf8.encode n=⟨[b].toArray⟩:=by
 subst hb;rw [enc_one _ (by omega)];congr 3;simp
theorem ret_val {a b:Value} (h:a=b):Ending.returned a = .returned b:=by rw [h]
theorem str_eq {a b:ByteArray} (h:a=b):Value.string a=Value.string b:=by rw [h]
theorem plain_any (b:UInt8) (w:World) :
  Calls prog 251 #[.int .u8 b.toNat] w fun e w'=>e = .returned (zak (zbn b))/\w=w':=by
 have hb:=b.toNat_lt;cases hu:isUp b
 ·have a0:=hu
  rw [up_iff,decide_eq_false_iff_not] at a0;have hc:(65<=(b.toNat:Int)/\90<(b.toNat:Int))\/(b.toNat:Int)<65:=by omega
  clear a0;have HU:=zjy hu;clear hu;cases hlo:zf8 b
  ·have HL:=zjy hlo;clear hlo
   cases hdi:isDgt b
   ·have HD:=zjy hdi;clear hdi
    cases ha:((b.toNat:Int) == 39)
    ·have this:(b == 39)=false:=by simp at ha ⊢;intro h;subst h;simp at ha
     have HP:=zjy (show zbn b=[32] by simp [zbn,HU.o,HL.o,HD.o,this]);clear this
     rcases hc with ⟨a1,a4⟩ | a1
     all_goals
      go_enter func251,ntmps251
      go_wp2_with fail
      refine (zgp b _).mono ?_;rw [HL.o];rintro e w' ⟨rfl,rfl⟩;go_wp2_with fail
      refine (digit_any b _).mono ?_;rw [HD.o];rintro e w' ⟨rfl,rfl⟩;go_wp2_with fail
      go_ret;exact ⟨ret_val (by rw [HP.o];rfl),rfl⟩
    ·have this:(b == 39)=true:=by simp [<- UInt8.toNat_inj] at ha ⊢;omega
     have HP:=zjy (show zbn b=[] by simp [zbn,HU.o,HL.o,HD.o,this]);clear this
     rcases hc with ⟨a1,a4⟩ | a1
     all_goals
      go_enter func251,ntmps251
      go_wp2_with fail
      refine (zgp b _).mono ?_;rw [HL.o];rintro e w' ⟨rfl,rfl⟩;go_wp2_with fail
      refine (digit_any b _).mono ?_;rw [HD.o];rintro e w' ⟨rfl,rfl⟩;go_wp2_with fail
      go_ret;exact ⟨ret_val (by rw [HP.o];rfl),rfl⟩
   ·have KL:=zjy (fun w=>by have:=zgp b w;rw [HL.o] at this;exact this:∀ w,Calls prog 175 #[.int .u8 b.toNat] w fun e w'=>e = .returned (.bool false)/\w=w')
    have KD:=zjy (fun w=>by have:=digit_any b w;rw [hdi] at this;exact this:∀ w,Calls prog 271 #[.int .u8 b.toNat] w fun e w'=>e = .returned (.bool true)/\w=w')
    have a3:=hdi;rw [ze0,decide_eq_true_iff] at a3;obtain ⟨hd1,hd2⟩:=a3;have HD:=zjy hdi;clear hdi;have HP:=zjy (show zbn b=[b] by simp [zbn,HU.o,HL.o,HD.o]);have HE:=zjy (enc_byte b _ (by omega) (by omega) rfl);clear HL HD HU;have a6:0<=(b.toNat:Int):=by omega
    have a5:(b.toNat:Int)<256:=by omega
    clear hb;generalize (b.toNat:Int)=n at *;have a1:n<65:=by omega
    clear hc
    all_goals
     go_enter func251,ntmps251
     go_wp2_with fail
     refine (KL.o _).mono ?_;rintro e w' ⟨rfl,rfl⟩;go_wp2_with fail
     refine (KD.o _).mono ?_;rintro e w' ⟨rfl,rfl⟩;go_wp2_with fail
     go_ret;exact ⟨ret_val (by rw [HP.o];exact str_eq HE.o),rfl⟩
  ·have KL:=zjy (fun w=>by have:=zgp b w;rw [hlo] at this;exact this:∀ w,Calls prog 175 #[.int .u8 b.toNat] w fun e w'=>e = .returned (.bool true)/\w=w')
   have a2:=hlo;rw [zdz,decide_eq_true_iff] at a2;obtain ⟨hl1,hl2⟩:=a2;have HL:=zjy hlo;clear hlo;have HP:=zjy (show zbn b=[b] by simp [zbn,HU.o,HL.o]);have HE:=zjy (enc_byte b _ (by omega) (by omega) rfl);clear HL HU;have a6:0<=(b.toNat:Int):=by omega
   have a5:(b.toNat:Int)<256:=by omega
   clear hb;generalize (b.toNat:Int)=n at *;have a1:65<=n:=by omega
   have a4:90<n:=by omega
   clear hc
   all_goals
    go_enter func251,ntmps251
    go_wp2_with fail
    refine (KL.o _).mono ?_;rintro e w' ⟨rfl,rfl⟩;go_wp2_with fail
    go_ret;exact ⟨ret_val (by rw [HP.o];exact str_eq HE.o),rfl⟩
 ·have a0:=hu
  rw [up_iff,decide_eq_true_iff] at a0;obtain ⟨h1,h2⟩:=a0;have HP:=zjy (show zbn b=[b+32] by simp [zbn,hu]);have HU:=zjy hu;clear hu;go_enter func251,ntmps251
  go_wp2_with fail
  go_ret;exact ⟨ret_val (by rw [HP.o];exact str_eq (enc_byte _ _ (by omega) (by omega) (by simp;omega))),rfl⟩
theorem zew (s:ByteArray) (k:Nat) (h:k<s.size):s.data.toList.take (k+1)=s.data.toList.take k++[s[k]]:=by
 rw [List.take_succ_eq_append_getElem (by simpa using h)];rfl
theorem letters_no (l:List UInt8) (b:UInt8) (h:zf8 b=false):za7 (l++[b])=za7 l:=by simp [za7,h]
theorem letters_yes (l:List UInt8) (b:UInt8) (h:zf8 b=true):za7 (l++[b])=za7 l++[b]:=by simp [za7,h]
theorem zfv (l:List UInt8):(za7 l).length<=l.length:=List.length_filter_le _ _
theorem zir (s:ByteArray) (w:World) (hs:s.size<=1000000) :
  Calls prog 130 #[.string s] w fun e w'=>e = .returned (zak (za7 s.data.toList))/\Below w.heap.size w w':=by
 have hl:s.data.toList.length=s.size:=by simp
 have HL:=zjy hl;clear hl;obtain ⟨i0,hi,hz0,hz1,hz2⟩:=info_parts infoB;go_enter func130,ntmps130
 go_wp2_with fail
 go_loopw [3,7] (fun b i wr=>∃ k:Nat,k<=s.size/\i = .int .i64 k/\wr.ownsRow w.heap.size 5 1 b (za7 (s.data.toList.take k)).length ((za7 (s.data.toList.take k)).map zga)/\Below w.heap.size w wr) (fun _ i _=>s.size - (intOf i).toNat)
 case atStart=>exact ⟨0,by omega,rfl,⟨by simp [za7],.inl ⟨rfl,by simp [za7]⟩⟩,Below.refl _ _⟩
 case round =>
  obtain ⟨k,hk,rfl,ho,hb⟩:=hrel;have HO:=zjy ho;clear ho;have a0:=zjy hb;clear hb;by_cases hlt:k<s.size
  ·have hq:decide ((k:Int)<s.size)=true:=by simp;omega
   have ht:=zjy (zew s k hlt);go_wp2_with fail
   refine (zgp s[k] _).mono ?_;cases hlo:zf8 s[k]
   ·have a2:=zjy (letters_no (s.data.toList.take k) s[k] hlo);clear hlo
    rintro e w' ⟨rfl,rfl⟩;go_wp2_with fail
    go_roundw
    case rel=>exact ⟨k+1,by omega,by go_num,by rw [ht.o,a2.o];exact HO.o,a0.o⟩
    case measure=>simp [intOf];omega
   ·have a2:=zjy (letters_yes (s.data.toList.take k) s[k] hlo);clear hlo
    have a1:(za7 (s.data.toList.take k)).length<1099511627776:=by have:=zfv (s.data.toList.take k);have:=List.length_take_le k s.data.toList;omega
    rintro e w' ⟨rfl,rfl⟩;go_wp2_with (at_builtin;refine zay rfl _ _ 175 rfl w.heap.size 5 1 1 (.int .u8 0) underlying175 infoB rfl (by decide) (by decide) _ _ _ rfl HO.o #[.int .u8 s[k].toNat] 1 rfl rfl (by simp [Value.oneCell']) a1 a0.o.size ?_;intro v2 w2 a4 a3)
    go_roundw
    case rel=>exact ⟨k+1,by omega,by go_num,by rw [ht.o,a2.o];simpa [zga] using a4,a3 _ a0.o⟩
    case measure=>simp [intOf];omega
  ·obtain rfl:k=s.size:=by omega
   have hq:decide ((s.size:Int)<s.size)=false:=by simp
   rw [List.take_of_length_le (by rw [HL.o];omega)] at HO;have hcv:=zce (P:=prog) (src:=175) (dst:=9) _ HO.o underlying175 underlying5 underlying9;go_wp2_with fail
   go_ret;exact ⟨rfl,a0.o⟩
end
section
open Go.RowKit
def ascii (l:List UInt8):Prop:=∀ b∈l,b.toNat<128
theorem decode_ascii (l:List UInt8) (h:ascii l) (pos:Nat) (hp:pos<l.length):Utf8.decode ⟨l.toArray⟩ pos=(l[pos].toNat,1):=by
 have hb:=h _ (List.getElem_mem hp)
 have e:(ByteArray.get! ⟨l.toArray⟩ (pos+0))=l[pos]:=by
  show l.toArray[pos]! = _;rw [getElem!_pos l.toArray pos (by simpa using hp)];simp
 unfold Utf8.decode;simp only [e];rw [if_pos (by simpa using hb)]
def isSp (r:Nat):Bool:=r == 32
def curL (l:List UInt8):Option Nat->Nat->List UInt8
 | none,_=>[]
 | some a,pos=>(l.take pos).drop a
def mkS (l:List UInt8):ByteArray:=⟨l.toArray⟩
theorem ext_mk (l:List UInt8) (a b:Nat) (hb:b<=l.length):(mkS l).extract a b=mkS ((l.take b).drop a):=by
 apply ByteArray.ext;simp [mkS,ByteArray.data_extract,List.drop_take]
theorem ze8 (p:List UInt8) (h:p≠[]):zbw p []=[p]:=by simp [zbw,h]
theorem zbm (r:List UInt8):zbw [] (32 :: r)=zbw [] r:=by simp [zbw]
theorem zbz (p r:List UInt8) (h:p≠[]):zbw p (32 :: r)=p :: zbw [] r:=by simp [zbw,h]
theorem zb0 (p r:List UInt8) (c:UInt8) (h:c≠32):zbw p (c :: r)=zbw (p++[c]) r:=by simp [zbw,h]
theorem cur_ne {l:List UInt8} {a pos:Nat} (h:a<pos) (h2:pos<=l.length):(l.take pos).drop a≠[]:=by
 intro e;have:=congrArg List.length e;simp at this;omega
theorem fields_aux (l:List UInt8) (h:ascii l):∀ f pos st acc,l.length<=pos+f->pos<=l.length->(∀ a,st=some a->a<pos) ->
  ((Lib.closeSpans (mkS l) (Lib.spansFromP isSp (mkS l) f pos st acc)).map fun x=>(mkS l).extract x.1 x.2)=(acc.map fun x=>(mkS l).extract x.1 x.2)++(zbw (curL l st pos) (l.drop pos)).map mkS:=by
 have a2:(mkS l).size=l.length:=by simp [mkS,ByteArray.size]
 have a1:∀ pos st (acc:List (Nat × Nat)),l.length<=pos->pos<=l.length->(∀ a,st=some a->a<pos) ->
   ((Lib.closeSpans (mkS l) (acc,st)).map fun x=>(mkS l).extract x.1 x.2)=(acc.map fun x=>(mkS l).extract x.1 x.2)++(zbw (curL l st pos) (l.drop pos)).map mkS:=by
  intro pos st acc h1 h2 h3;rw [List.drop_eq_nil_of_le h1];cases st with
  | none=>simp [Lib.closeSpans,curL,zbw]
  | some a =>
   have hn:=cur_ne (l:=l) (h3 a rfl) h2;simp only [Lib.closeSpans,curL,ze8 _ hn,List.map_append,List.map_cons,List.map_nil,a2];rw [ext_mk l _ _ xnl,List.take_of_length_le xnl,List.take_of_length_le h1]
 intro f;induction f with
 | zero =>
  intro pos st acc h1 h2 h3;exact a1 pos st acc h1 h2 h3
 | succ f ih =>
  intro pos st acc h1 h2 h3;by_cases hlt:pos<l.length
  ·obtain ⟨c,hd,a4,a3⟩:∃ c:UInt8,Utf8.decode (mkS l) pos=(c.toNat,1)/\l.drop pos=c :: l.drop (pos+1)/\l.take (pos+1)=l.take pos++[c] :=
    ⟨l[pos],decode_ascii l h pos hlt,List.drop_eq_getElem_cons hlt,List.take_succ_eq_append_getElem hlt⟩
   have a0:pos<(mkS l).size:=by rw [a2];exact hlt
   rw [a4];by_cases hc:c=32
   ·have hp:isSp c.toNat=true:=by rw [hc];rfl
    cases st with
    | none =>
     simp only [Lib.spansFromP,a0,if_true,hd];rw [if_pos hp];rw [ih (pos+1) none acc (by omega) (by omega) (by simp),hc];simp only [curL,zbm]
    | some a =>
     have hn:=cur_ne (l:=l) (h3 a rfl) h2;simp only [Lib.spansFromP,a0,if_true,hd];rw [if_pos hp];rw [ih (pos+1) none _ (by omega) (by omega) (by simp),hc];simp only [curL,zbz _ _ hn,List.map_append,List.map_cons,List.map_nil,List.append_assoc,List.cons_append,List.nil_append];rw [ext_mk l _ _ (by omega)]
   ·have hp:isSp c.toNat=false:=by
     cases e:isSp c.toNat
     ·rfl
     ·exfalso;apply hc;unfold isSp at e;rw [<- UInt8.toNat_inj];simpa using e
    cases st with
    | none =>
     simp only [Lib.spansFromP,a0,if_true,hd];rw [if_neg (by rw [hp];exact Bool.false_ne_true)];rw [ih (pos+1) (some pos) acc (by omega) (by omega) (by simp)];congr 2;simp only [curL,zb0 _ _ _ hc,List.nil_append];rw [a3,List.drop_append_of_le_length (by simp;omega),List.drop_eq_nil_of_le (by simp;omega)];rfl
    | some a =>
     have hap:=h3 a rfl;simp only [Lib.spansFromP,a0,if_true,hd];rw [if_neg (by rw [hp];exact Bool.false_ne_true)];rw [ih (pos+1) (some a) acc (by omega) (by omega) (by intro b hb;cases hb;omega)];congr 2;simp only [curL,zb0 _ _ _ hc];rw [a3,List.drop_append_of_le_length (by simp;omega)]
  ·rw [Lib.spansFromP_end _ _ _ _ _ _ (by rw [a2];exact hlt)]
   exact a1 pos st acc (by omega) h2 h3
theorem fields_toks (l:List UInt8) (h:ascii l):Lib.goFieldsP isSp (mkS l)=(zcu l).map mkS:=by
 have a0:(mkS l).size=l.length:=by simp [mkS,ByteArray.size]
 have:=fields_aux l h l.length 0 none [] (by omega) (by omega) (by simp);unfold Lib.goFieldsP Lib.spansOfP;rw [a0];exact this
theorem join_toks (L:List (List UInt8)):Lib.join L [32]=za2 L:=by
 induction L with
 | nil=>rfl
 | cons a L ih =>
  cases L with
  | nil=>rw [Lib.join_one];rfl
  | cons b L =>
   rw [Lib.join_cons] at *;simp only [Lib.joinTail,List.map_cons,List.flatten_cons,za2] at *;rw [<- ih];simp
end
section
open Go.RowKit
def Row (w:World) (S:Nat->Prop) (size:Nat) (v:Value) (n:Nat) (xs:List Value):Prop :=
 ∃ a cap,v = .slice a n cap/\xs.length=n*size/\(0<xs.length->∃ b off,a=some ⟨b,off,none⟩/\S b/\∀ j,j<xs.length->w.cell? ⟨b,off+j,none⟩=xs[j]?)
def All (w:World) (b:Nat):Prop:=b<w.heap.size
theorem Row.move {w w':World} {S S':Nat->Prop} {size:Nat} {v:Value} {n:Nat} {xs:List Value} (h:Row w S size v n xs) (hS:∀ b,b<w.heap.size->S b->w'.heap[b]?=w.heap[b]?/\S' b):Row w' S' size v n xs:=by
 obtain ⟨a,a0,h1,h2,h3⟩:=h
 refine ⟨a,a0,h1,h2,fun h0=>?_⟩
 obtain ⟨b,off,h4,h5,h6⟩:=h3 h0
 have hb:b<w.heap.size:=by
  have:=h6 0 h0;rw [List.getElem?_eq_getElem h0] at this;exact World.block_lt_of_cell? _ _ this
 obtain ⟨e1,e2⟩:=hS b hb h5;exact ⟨b,off,h4,e2,fun j hj=>(World.cell?_of_block (w:=w) (a:=⟨b,off+j,none⟩) e1).trans (h6 j hj)⟩
theorem Row.below {w w':World} {size:Nat} {v:Value} {n:Nat} {xs:List Value} (h:Row w (All w) size v n xs) (hb:Below w.heap.size w w'):Row w' (All w') size v n xs :=
 h.move fun b hb' _=>⟨hb.block b hb',Nat.lt_of_lt_of_le hb' hb.size⟩
theorem Row.nil (w:World) (S:Nat->Prop) (size:Nat):Row w S size (.slice none 0 0) 0 []:=⟨none,0,rfl,by simp,by simp⟩
theorem Row.slice {w:World} {S:Nat->Prop} {size:Nat} {v:Value} {n:Nat} {xs:List Value} (h:Row w S size v n xs):∃ a cap,v = .slice a n cap:=by
 obtain ⟨a,cap,h1,_⟩:=h;exact ⟨a,cap,h1⟩
theorem Row.owns {w:World} {B:Nat} {e:TypeId} {size:Nat} {v:Value} {n:Nat} {xs:List Value} (h:w.ownsRow B e size v n xs) {S:Nat->Prop} (hS:∀ b,B<=b->b<w.heap.size->S b):Row w S size v n xs:=by
 obtain ⟨hl,h⟩:=h
 rcases h with ⟨rfl,rfl⟩ | ⟨g,cap,cur,rfl,hg,hh,hn,hc,hsz,ht⟩
 ·have:xs=[]:=List.length_eq_zero_iff.1 (by omega)
  subst this;exact Row.nil w S size
 ·refine ⟨_,cap,rfl,hl,fun h0=>⟨g,0,rfl,hS g hg (zaa hh),fun j hj=>?_⟩⟩
  rw [cell_of_row w g (0+j) cur e (0,0) hh,Nat.zero_add,<- ht,List.getElem?_take,if_pos (by omega),Array.getElem?_toList]
theorem Row.five {w:World} {S:Nat->Prop} {n:Nat} {xs:List Value} {a:Option Addr} {cap:Nat} (h:Row w S 5 (.slice a n cap) n xs) (k:Nat) (hk:k<n) (x0 x1 x2 x3 x4:Value) (e:(xs.drop (k*5)).take 5=[x0,x1,x2,x3,x4]) :
  ∃ b off,a=some ⟨b,off,none⟩/\b<w.heap.size/\w.cell? ⟨b,off+k*5,none⟩=some x0/\w.cell? ⟨b,off+k*5+1,none⟩=some x1/\w.cell? ⟨b,off+k*5+2,none⟩=some x2/\w.cell? ⟨b,off+k*5+3,none⟩=some x3/\w.cell? ⟨b,off+k*5+4,none⟩=some x4:=by
 obtain ⟨a',a1,h1,h2,h3⟩:=h;have a0:k*5+5<=xs.length:=by rw [h2];omega
 obtain ⟨b,off,h4,h5,h6⟩:=h3 (by omega);cases h1
 have g:∀ i,(hi:i<5)->xs[k*5+i]?=[x0,x1,x2,x3,x4][i]?:=by
  intro i hi;rw [<- e,List.getElem?_take,if_pos hi,List.getElem?_drop]
 have c:∀ i,(hi:i<5)->w.cell? ⟨b,off+k*5+i,none⟩=[x0,x1,x2,x3,x4][i]?:=by
  intro i hi;rw [Nat.add_assoc,h6 _ (by omega),g i hi]
 have c0:=c 0 (by omega);exact ⟨b,off,h4,World.block_lt_of_cell? _ ⟨b,off+k*5+0,none⟩ c0,c0,c 1 (by omega),c 2 (by omega),c 3 (by omega),c 4 (by omega)⟩
end
section
open Go.RowKit
variable {α:Type}
def Vec (w:World) (S:Nat->Prop) (k:Nat) (enc:α->List Value) (v:Value) (L:List α):Prop :=
 ∃ a cap,v = .slice a L.length cap/\L.length<=cap/\(0<L.length->∃ b off,a=some ⟨b,off,none⟩/\S b/\b<w.heap.size/\∀ j x,L[j]?=some x->∀ i u,(enc x)[i]?=some u->w.cell? ⟨b,off+j*k+i,none⟩=some u)
theorem Vec.move {w w':World} {S S':Nat->Prop} {k:Nat} {enc:α->List Value} {v:Value} {L:List α} (h:Vec w S k enc v L) (hz:w.heap.size<=w'.heap.size) (hS:∀ b,b<w.heap.size->S b->w'.heap[b]?=w.heap[b]?/\S' b):Vec w' S' k enc v L:=by
 obtain ⟨a,a1,h1,h2,h3⟩:=h
 refine ⟨a,a1,h1,h2,fun h0=>?_⟩
 obtain ⟨b,off,h4,h5,a0,h6⟩:=h3 h0;obtain ⟨e1,e2⟩:=hS b a0 h5;exact ⟨b,off,h4,e2,by omega,fun j x hj i u hu=>(World.cell?_of_block (w:=w) (a:=⟨b,off+j*k+i,none⟩) e1).trans (h6 j x hj i u hu)⟩
def zau (b:Nat):Prop:=True
theorem Vec.below {w w':World} {S:Nat->Prop} {k:Nat} {enc:α->List Value} {v:Value} {L:List α} (h:Vec w S k enc v L) (hb:Below w.heap.size w w'):Vec w' S k enc v L :=
 h.move hb.size fun b hb' h=>⟨hb.block b hb',h⟩
theorem Vec.any {w:World} {S:Nat->Prop} {k:Nat} {enc:α->List Value} {v:Value} {L:List α} (h:Vec w S k enc v L):Vec w zau k enc v L :=
 h.move xnl fun b hb' h=>⟨rfl,trivial⟩
theorem Vec.nil (w:World) (S:Nat->Prop) (k:Nat) (enc:α->List Value):Vec w S k enc (.slice none 0 0) []:=⟨none,0,rfl,by simp,by simp⟩
theorem Vec.slice {w:World} {S:Nat->Prop} {k:Nat} {enc:α->List Value} {v:Value} {L:List α} (h:Vec w S k enc v L):∃ a cap,v = .slice a L.length cap:=by
 obtain ⟨a,cap,h1,_⟩:=h;exact ⟨a,cap,h1⟩
theorem zgf {k:Nat} {enc:α->List Value} (hk:∀ x,(enc x).length=k):∀ (L:List α) (j:Nat) (x:α),L[j]?=some x->∀ i,i<k->(L.flatMap enc)[j*k+i]?=(enc x)[i]?:=by
 intro L;induction L with
 | nil=>intro j x h;simp at h
 | cons y L ih =>
  intro j x h i hi;rw [List.flatMap_cons];cases j with
  | zero =>
   simp at h;subst h;rw [List.getElem?_append_left (by rw [hk];omega)];simp
  | succ j =>
   rw [List.getElem?_append_right (by rw [hk,Nat.succ_mul];omega),hk];rw [show (j+1)*k+i - k=j*k+i by rw [Nat.succ_mul];omega];exact ih j x (by simpa using h) i hi
theorem zd8 {k:Nat} {enc:α->List Value} (hk:∀ x,(enc x).length=k) (L:List α):(L.flatMap enc).length=L.length*k:=by
 induction L with
 | nil=>simp
 | cons y L ih=>rw [List.flatMap_cons,List.length_append,hk,ih,List.length_cons,Nat.succ_mul];omega
theorem Vec.owns {w:World} {B:Nat} {e:TypeId} {k:Nat} {enc:α->List Value} (hk:∀ x,(enc x).length=k) {v:Value} {L:List α} (h:w.ownsRow B e k v L.length (L.flatMap enc)) {S:Nat->Prop} (hS:∀ b,B<=b->b<w.heap.size->S b):Vec w S k enc v L:=by
 obtain ⟨hl,h⟩:=h
 rcases h with ⟨rfl,h0⟩ | ⟨g,cap,cur,rfl,hg,hh,hn,hc,hsz,ht⟩
 ·have:L=[]:=List.length_eq_zero_iff.1 h0
  subst this;exact Vec.nil w S k enc
 ·refine ⟨_,cap,rfl,hn,fun h0=>⟨g,0,rfl,hS g hg (zaa hh),zaa hh,fun j x hj i u hu=>?_⟩⟩
  have hi:i<k:=by rw [<- hk x];exact (List.getElem?_eq_some_iff.1 hu).1
  rw [cell_of_row w g (0+j*k+i) cur e (0,0) hh,Nat.zero_add];have hx:=zgf hk L j x hj i hi;rw [hu,<- ht,List.getElem?_take] at hx;split at hx
  ·rw [<- Array.getElem?_toList];exact hx
  ·cases hx
theorem Vec.get {w:World} {S:Nat->Prop} {k:Nat} {enc:α->List Value} {a:Option Addr} {n cap:Nat} {L:List α} (h:Vec w S k enc (.slice a n cap) L) (j:Nat) (hj:j<L.length) :
  ∃ b off,a=some ⟨b,off,none⟩/\b<w.heap.size/\∀ i u,(enc L[j])[i]?=some u->w.cell? ⟨b,off+j*k+i,none⟩=some u:=by
 obtain ⟨a',a1,h1,h2,h3⟩:=h;cases h1;obtain ⟨b,off,h4,h5,a0,h6⟩:=h3 (by omega);exact ⟨b,off,h4,a0,fun i u hu=>h6 j _ (List.getElem?_eq_getElem hj) i u hu⟩
theorem Vec.len {w:World} {S:Nat->Prop} {k:Nat} {enc:α->List Value} {a:Option Addr} {n cap:Nat} {L:List α} (h:Vec w S k enc (.slice a n cap) L):n=L.length/\n<=cap:=by
 obtain ⟨a',a0,h1,h2,h3⟩:=h;cases h1;exact ⟨rfl,h2⟩
end
end Go.Proofs.YtgkaafncfjlooaaGreatDoor
section
namespace Go.Proofs
open Go.Shelf
def Tryz.lays169_ren:Go.Shelf.Ren:=⟨fun | 169=>252 | n=>n,fun | 70=>253 | 9=>9 | 0=>0 | 72=>255 | 37=>175 | 127=>284 | 3=>3 | 5=>5 | n=>n,fun | n=>n⟩
theorem Tryz.lays169:Go.Proofs.Lays.n169 prog Tryz.lays169_ren:={
 mixed:=by kernel_rfl
 f169:=func252.trans (congrArg some (by kernel_rfl))
 t0:=underlying0
 a0:=Tryz.isAgg0
 z0:=Tryz.sizeOf0
 v0:=Tryz.zeroValue0
 t3:=underlying3
 a3:=Tryz.isAgg3
 z3:=Tryz.sizeOf3
 v3:=Tryz.zeroValue3
 t9:=underlying9
 a9:=Tryz.isAgg9
 z9:=Tryz.sizeOf9
 v9:=Tryz.zeroValue9
 t37:=underlying175
 a37:=Tryz.isAgg175
 z37:=Tryz.sizeOf175
 v37:=Tryz.zeroValue175
 t70:=underlying253
 a70:=Tryz.isAgg253
 z70:=Tryz.sizeOf253
 v70:=Tryz.zeroValue253
 t72:=underlying255
 a72:=Tryz.isAgg255
 z72:=Tryz.sizeOf255
 v72:=Tryz.zeroValue255
 t127:=underlying284
 a127:=Tryz.isAgg284
 z127:=Tryz.sizeOf284
 v127:=Tryz.zeroValue284 }
theorem Tryz.Builder_Extra_169:Builder.Extra prog Tryz.lays169_ren:={
 sizeBuilder:=by kernel_rfl
 liesBuilder:=by kernel_rfl
 t5:=underlying5
 a5:=Tryz.isAgg5
 z5:=Tryz.sizeOf5
 v5:=Tryz.zeroValue5
 infoByte:=by kernel_rfl
 cellsByte:=by kernel_rfl
 sizeByte:=by kernel_rfl
 neB5:=by decide }
open Go.RowKit in
theorem Tryz.Builder_String_any (B b:Nat) (l:List UInt8) (w:World) (h:Lib.IsBuilder 255 5 B b (Lib.byteCells l) w) (hBw:B<=w.heap.size) :
  Calls prog 252 #[.pointer (some ⟨b,0,none⟩)] w fun e w'=>e = .returned (.string ⟨l.toArray⟩)/\Below B w w':=Any.Builder_String_any Tryz.lays169 Tryz.Builder_Extra_169 B b l w h hBw
def Tryz.lays156_ren:Go.Shelf.Ren:=⟨fun | 156=>237 | 165=>261 | 166=>250 | 169=>252 | 240=>270 | 241=>276 | 276=>286 | 277=>290 | n=>n,fun | 31=>28 | 9=>9 | 3=>3 | 4=>4 | 0=>0 | 20=>20 | 72=>255 | 76=>259 | 70=>253 | 37=>175 | 75=>258 | 127=>284 | 164=>300 | 5=>5 | 80=>261 | n=>n,fun | n=>n⟩
theorem Tryz.lays156:Go.Proofs.Lays.n156 prog Tryz.lays156_ren:={
 mixed:=by kernel_rfl
 f156:=func237.trans (congrArg some (by kernel_rfl))
 f165:=func261.trans (congrArg some (by kernel_rfl))
 f166:=func250.trans (congrArg some (by kernel_rfl))
 f169:=func252.trans (congrArg some (by kernel_rfl))
 f240:=func270.trans (congrArg some (by kernel_rfl))
 f241:=func276.trans (congrArg some (by kernel_rfl))
 f276:=func286.trans (congrArg some (by kernel_rfl))
 f277:=func290.trans (congrArg some (by kernel_rfl))
 t0:=underlying0
 a0:=Tryz.isAgg0
 z0:=Tryz.sizeOf0
 v0:=Tryz.zeroValue0
 t3:=underlying3
 a3:=Tryz.isAgg3
 z3:=Tryz.sizeOf3
 v3:=Tryz.zeroValue3
 t4:=underlying4
 a4:=Tryz.isAgg4
 z4:=Tryz.sizeOf4
 v4:=Tryz.zeroValue4
 t9:=underlying9
 a9:=Tryz.isAgg9
 z9:=Tryz.sizeOf9
 v9:=Tryz.zeroValue9
 t20:=underlying20
 a20:=Tryz.isAgg20
 z20:=Tryz.sizeOf20
 v20:=Tryz.zeroValue20
 t31:=underlying28
 a31:=Tryz.isAgg28
 z31:=Tryz.sizeOf28
 v31:=Tryz.zeroValue28
 t37:=underlying175
 a37:=Tryz.isAgg175
 z37:=Tryz.sizeOf175
 v37:=Tryz.zeroValue175
 t70:=underlying253
 a70:=Tryz.isAgg253
 z70:=Tryz.sizeOf253
 v70:=Tryz.zeroValue253
 t72:=underlying255
 a72:=Tryz.isAgg255
 z72:=Tryz.sizeOf255
 v72:=Tryz.zeroValue255
 t75:=underlying258
 a75:=Tryz.isAgg258
 z75:=Tryz.sizeOf258
 v75:=Tryz.zeroValue258
 t76:=underlying259
 a76:=Tryz.isAgg259
 z76:=Tryz.sizeOf259
 v76:=Tryz.zeroValue259
 t127:=underlying284
 a127:=Tryz.isAgg284
 z127:=Tryz.sizeOf284
 v127:=Tryz.zeroValue284
 t164:=underlying300
 a164:=Tryz.isAgg300
 z164:=Tryz.sizeOf300
 v164:=Tryz.zeroValue300 }
theorem Tryz.Builder_Extra_156:Builder.Extra prog Tryz.lays156_ren:={
 sizeBuilder:=by kernel_rfl
 liesBuilder:=by kernel_rfl
 t5:=underlying5
 a5:=Tryz.isAgg5
 z5:=Tryz.sizeOf5
 v5:=Tryz.zeroValue5
 infoByte:=by kernel_rfl
 cellsByte:=by kernel_rfl
 sizeByte:=by kernel_rfl
 neB5:=by decide }
open Go.RowKit in
theorem Tryz.strings_Join_none (a:Option Addr) (c:Nat) (sep:ByteArray) (w:World) :
  Calls prog 237 #[.slice a 0 c,.string sep] w fun e w'=>e = .returned (.string ⟨#[]⟩)/\w'=w:=Any.strings_Join_none Tryz.lays156 Tryz.Builder_Extra_156 a c sep w
open Go.RowKit in
theorem Tryz.strings_Join (bk o c:Nat) (xs:List ByteArray) (sep:ByteArray) (w:World) (hcells:∀ (j:Nat) x,xs[j]?=some x->w.cell? ⟨bk,o+j,none⟩=some (.string x)) (hbk:bk<w.heap.size) (hN:xs.length<=140737488355328) (hcap:xs.length<=c) (hlen:(Lib.join (xs.map (·.data.toList)) sep.data.toList).length<=140737488355328) :
  Calls prog 237 #[.slice (some ⟨bk,o,none⟩) xs.length c,.string sep] w fun e w'=>e = .returned (.string ⟨(Lib.join (xs.map (·.data.toList)) sep.data.toList).toArray⟩)/\Below w.heap.size w w':=Any.strings_Join Tryz.lays156 Tryz.Builder_Extra_156 bk o c xs sep w hcells hbk hN hcap hlen
def Tryz.lays161_ren:Go.Shelf.Ren:=⟨fun | 161=>262 | 231=>277 | 227=>278 | 233=>279 | 235=>280 | 228=>291 | 197=>292 | 151=>293 | 260=>305 | 152=>306 | 137=>311 | 119=>312 | 224=>313 | 225=>314 | 217=>316 | 266=>317 | n=>n,fun | 9=>9 | 4=>4 | 3=>3 | 5=>5 | 117=>292 | 116=>291 | 0=>0 | 124=>295 | 105=>306 | 21=>21 | 119=>320 | 46=>119 | 139=>323 | 138=>322 | n=>n,fun | 3=>4 | 4=>5 | n=>n⟩
theorem Tryz.lays161:Go.Proofs.Lays.n161 prog Tryz.lays161_ren:={
 mixed:=by kernel_rfl
 f119:=func312.trans (congrArg some (by kernel_rfl))
 f137:=func311.trans (congrArg some (by kernel_rfl))
 f151:=func293.trans (congrArg some (by kernel_rfl))
 f152:=func306.trans (congrArg some (by kernel_rfl))
 f161:=func262.trans (congrArg some (by kernel_rfl))
 f197:=func292.trans (congrArg some (by kernel_rfl))
 f217:=func316.trans (congrArg some (by kernel_rfl))
 f224:=func313.trans (congrArg some (by kernel_rfl))
 f225:=func314.trans (congrArg some (by kernel_rfl))
 f227:=func278.trans (congrArg some (by kernel_rfl))
 f228:=func291.trans (congrArg some (by kernel_rfl))
 f231:=func277.trans (congrArg some (by kernel_rfl))
 f233:=func279.trans (congrArg some (by kernel_rfl))
 f235:=func280.trans (congrArg some (by kernel_rfl))
 f260:=func305.trans (congrArg some (by kernel_rfl))
 f266:=func317.trans (congrArg some (by kernel_rfl))
 t0:=underlying0
 a0:=Tryz.isAgg0
 z0:=Tryz.sizeOf0
 v0:=Tryz.zeroValue0
 t3:=underlying3
 a3:=Tryz.isAgg3
 z3:=Tryz.sizeOf3
 v3:=Tryz.zeroValue3
 t4:=underlying4
 a4:=Tryz.isAgg4
 z4:=Tryz.sizeOf4
 v4:=Tryz.zeroValue4
 t5:=underlying5
 a5:=Tryz.isAgg5
 z5:=Tryz.sizeOf5
 v5:=Tryz.zeroValue5
 t9:=underlying9
 a9:=Tryz.isAgg9
 z9:=Tryz.sizeOf9
 v9:=Tryz.zeroValue9
 t21:=underlying21
 a21:=Tryz.isAgg21
 z21:=Tryz.sizeOf21
 v21:=Tryz.zeroValue21
 t46:=underlying119
 a46:=Tryz.isAgg119
 z46:=Tryz.sizeOf119
 v46:=Tryz.zeroValue119
 t105:=underlying306
 a105:=Tryz.isAgg306
 z105:=Tryz.sizeOf306
 v105:=Tryz.zeroValue306
 t116:=underlying291
 a116:=Tryz.isAgg291
 z116:=Tryz.sizeOf291
 t117:=underlying292
 a117:=Tryz.isAgg292
 z117:=Tryz.sizeOf292
 v117:=Tryz.zeroValue292
 t119:=underlying320
 a119:=Tryz.isAgg320
 z119:=Tryz.sizeOf320
 t124:=underlying295
 a124:=Tryz.isAgg295
 z124:=Tryz.sizeOf295
 v124:=Tryz.zeroValue295
 t138:=underlying322
 a138:=Tryz.isAgg322
 z138:=Tryz.sizeOf322
 v138:=Tryz.zeroValue322
 t139:=underlying323
 a139:=Tryz.isAgg323
 z139:=Tryz.sizeOf323
 v139:=Tryz.zeroValue323
 g3:=by kernel_rfl
 g4:=by kernel_rfl }
open Go.RowKit in
theorem Tryz.strings_TrimLeft_one (s:ByteArray) (c:UInt8) (hc:c.toNat<128) (w:World) :
  Calls prog 262 #[.string s,.string ⟨#[c]⟩] w fun e w'=>e = .returned (.string ⟨(Lib.trimLeftB s.data.toList c).toArray⟩)/\w'=w:=Any.strings_TrimLeft_one Tryz.lays161 s c hc w
def Tryz.lays229_ren:Go.Shelf.Ren:=⟨fun | 229=>253 | n=>n,fun | 9=>9 | 40=>263 | 31=>28 | 152=>285 | 3=>3 | 0=>0 | 4=>4 | 21=>21 | 154=>287 | n=>n,fun | n=>n⟩
theorem Tryz.lays229:Go.Proofs.Lays.n229 prog Tryz.lays229_ren:={
 mixed:=by kernel_rfl
 f229:=func253.trans (congrArg some (by kernel_rfl))
 t0:=underlying0
 a0:=Tryz.isAgg0
 z0:=Tryz.sizeOf0
 v0:=Tryz.zeroValue0
 t3:=underlying3
 a3:=Tryz.isAgg3
 z3:=Tryz.sizeOf3
 v3:=Tryz.zeroValue3
 t4:=underlying4
 a4:=Tryz.isAgg4
 z4:=Tryz.sizeOf4
 v4:=Tryz.zeroValue4
 t9:=underlying9
 a9:=Tryz.isAgg9
 z9:=Tryz.sizeOf9
 v9:=Tryz.zeroValue9
 t21:=underlying21
 a21:=Tryz.isAgg21
 z21:=Tryz.sizeOf21
 v21:=Tryz.zeroValue21
 t31:=underlying28
 a31:=Tryz.isAgg28
 z31:=Tryz.sizeOf28
 v31:=Tryz.zeroValue28
 t40:=underlying263
 a40:=Tryz.isAgg263
 z40:=Tryz.sizeOf263
 v40:=Tryz.zeroValue263
 t152:=underlying285
 a152:=Tryz.isAgg285
 z152:=Tryz.sizeOf285
 v152:=Tryz.zeroValue285
 t154:=underlying287
 a154:=Tryz.isAgg287
 z154:=Tryz.sizeOf287
 v154:=Tryz.zeroValue287 }
open Go.RowKit Go.Lib in
theorem Tryz.strings_FieldsFunc (g:Nat) (lb:Array Value) (eg:∀ args w,(callFunc g args).run prog w = .ok (.enter g args) w) (p:Nat->Bool) (s:ByteArray) (w:World) (hs:s.size<=4294967296) (hp:PredAt prog g lb encR p w) :
  Calls prog 253 #[.string s,.func (.func g) #[] lb] w fun e w'=>∃ A,e = .returned (.slice (some ⟨A,0,none⟩) (Lib.goFieldsP p s).length (Lib.goFieldsP p s).length)/\w.heap.size<=A /\
   w'.ownsRow w.heap.size 9 1 (.slice (some ⟨A,0,none⟩) (Lib.goFieldsP p s).length (Lib.goFieldsP p s).length) (Lib.goFieldsP p s).length ((Lib.goFieldsP p s).map Value.string)/\Below w.heap.size w w':=Any.strings_FieldsFunc Tryz.lays229 g lb eg p s w hs hp (by kernel_rfl) (by kernel_rfl)
def Tryz.lays110_ren:Go.Shelf.Ren:=⟨fun | 110=>179 | 109=>204 | n=>n,fun | 31=>28 | 9=>9 | 4=>4 | 3=>3 | 0=>0 | n=>n,fun | n=>n⟩
theorem Tryz.lays110:Go.Proofs.Lays.n110 prog Tryz.lays110_ren:={
 mixed:=by kernel_rfl
 f109:=func204.trans (congrArg some (by kernel_rfl))
 f110:=func179.trans (congrArg some (by kernel_rfl))
 t0:=underlying0
 a0:=Tryz.isAgg0
 z0:=Tryz.sizeOf0
 v0:=Tryz.zeroValue0
 t3:=underlying3
 a3:=Tryz.isAgg3
 z3:=Tryz.sizeOf3
 v3:=Tryz.zeroValue3
 t4:=underlying4
 a4:=Tryz.isAgg4
 z4:=Tryz.sizeOf4
 v4:=Tryz.zeroValue4
 t9:=underlying9
 a9:=Tryz.isAgg9
 z9:=Tryz.sizeOf9
 v9:=Tryz.zeroValue9
 t31:=underlying28
 a31:=Tryz.isAgg28
 z31:=Tryz.sizeOf28
 v31:=Tryz.zeroValue28 }
open Go.Lib in
theorem Tryz.slices_Contains_string (b off n c:Nat) (zs:List ByteArray) (x:ByteArray) (w:World) (hz:n<=zs.length) (hbig:n<=9223372036854775807) (hc:∀ j,j<zs.length->w.cell? ⟨b,off+j,none⟩=some (.string (zs.getD j ByteArray.empty))) :
  Calls prog 179 #[.slice (some ⟨b,off,none⟩) n c,.string x] w fun e w'=>e = .returned (.bool (Lib.containsS (zs.take n) x))/\w'=w:=Any.slices_Contains_string Tryz.lays110 b off n c zs x w hz hbig hc
open Go.Lib in
theorem Tryz.slices_Contains_string_empty (a:Option Addr) (c:Nat) (x:ByteArray) (w:World) :
  Calls prog 179 #[.slice a 0 c,.string x] w fun e w'=>e = .returned (.bool false)/\w'=w:=Any.slices_Contains_string_empty Tryz.lays110 a c x w
def Tryz.laysCF_ren:Go.Shelf.Ren:=⟨fun | 8=>87 | 6=>129 | n=>n,fun | 22=>27 | 23=>85 | 25=>147 | 4=>4 | 3=>3 | 0=>0 | n=>n,fun | n=>n⟩
theorem Tryz.laysCF:Go.Proofs.SlLaysH0.n8 prog Tryz.laysCF_ren:={
 mixed:=by kernel_rfl
 f6:=⟨Tryz.f129.name,by decide,func129.trans (congrArg some (by kernel_rfl))⟩
 f8:=⟨Tryz.f87.name,by decide,func87.trans (congrArg some (by kernel_rfl))⟩
 t0:=underlying0
 a0:=Tryz.isAgg0
 z0:=Tryz.sizeOf0
 v0:=Tryz.zeroValue0
 t3:=underlying3
 a3:=Tryz.isAgg3
 z3:=Tryz.sizeOf3
 v3:=Tryz.zeroValue3
 t4:=underlying4
 a4:=Tryz.isAgg4
 z4:=Tryz.sizeOf4
 v4:=Tryz.zeroValue4
 t22:=underlying27
 a22:=Tryz.isAgg27
 z22:=Tryz.sizeOf27
 v22:=Tryz.zeroValue27
 t25:=underlying147
 a25:=Tryz.isAgg147
 z25:=Tryz.sizeOf147
 v25:=Tryz.zeroValue147 }
def Tryz.laysCP_ren:Go.Shelf.Ren:=⟨fun | 8=>133 | 6=>178 | n=>n,fun | 22=>29 | 23=>122 | 25=>186 | 4=>4 | 3=>3 | 0=>0 | n=>n,fun | n=>n⟩
theorem Tryz.laysCP:Go.Proofs.SlLaysH0.n8 prog Tryz.laysCP_ren:={
 mixed:=by kernel_rfl
 f6:=⟨Tryz.f178.name,by decide,func178.trans (congrArg some (by kernel_rfl))⟩
 f8:=⟨Tryz.f133.name,by decide,func133.trans (congrArg some (by kernel_rfl))⟩
 t0:=underlying0
 a0:=Tryz.isAgg0
 z0:=Tryz.sizeOf0
 v0:=Tryz.zeroValue0
 t3:=underlying3
 a3:=Tryz.isAgg3
 z3:=Tryz.sizeOf3
 v3:=Tryz.zeroValue3
 t4:=underlying4
 a4:=Tryz.isAgg4
 z4:=Tryz.sizeOf4
 v4:=Tryz.zeroValue4
 t22:=underlying29
 a22:=Tryz.isAgg29
 z22:=Tryz.sizeOf29
 v22:=Tryz.zeroValue29
 t25:=underlying186
 a25:=Tryz.isAgg186
 z25:=Tryz.sizeOf186
 v25:=Tryz.zeroValue186 }
def Tryz.laysIP_ren:Go.Shelf.Ren:=⟨fun | 6=>178 | n=>n,fun | 22=>29 | 23=>122 | 25=>186 | 3=>3 | 0=>0 | 4=>4 | n=>n,fun | n=>n⟩
theorem Tryz.laysIP:Go.Proofs.SlLaysH0.n6 prog Tryz.laysIP_ren:={
 mixed:=by kernel_rfl
 f6:=⟨Tryz.f178.name,by decide,func178.trans (congrArg some (by kernel_rfl))⟩
 t0:=underlying0
 a0:=Tryz.isAgg0
 z0:=Tryz.sizeOf0
 v0:=Tryz.zeroValue0
 t3:=underlying3
 a3:=Tryz.isAgg3
 z3:=Tryz.sizeOf3
 v3:=Tryz.zeroValue3
 t4:=underlying4
 a4:=Tryz.isAgg4
 z4:=Tryz.sizeOf4
 v4:=Tryz.zeroValue4
 t22:=underlying29
 a22:=Tryz.isAgg29
 z22:=Tryz.sizeOf29
 v22:=Tryz.zeroValue29
 t25:=underlying186
 a25:=Tryz.isAgg186
 z25:=Tryz.sizeOf186
 v25:=Tryz.zeroValue186 }
end Go.Proofs
end
namespace Go.Proofs.YtgkaafncfjlooaaGreatDoor
section
open Go.RowKit
def tblV:Array Value:=(replT.map zak).toArray
theorem repl_any (w:World) :
  Calls prog 248 #[] w fun e w'=>e = .returned (.agg tblV)/\Below w.heap.size w w':=by
 go_enter func248,ntmps248
 go_upto_region 1 with (fail)
 rename_i hK;refine wp_region_list ?_;refine wpList_buildTo rfl 251 _ rfl (some 1) rfl tblV (by kernel_rfl) ?_;refine wpList_store_row rfl 251 _ _ rfl w.heap.size tblV rfl rfl 251 _ (heap_alloc_new w _) (by kernel_rfl) (by kernel_rfl) (by kernel_rfl) ?_;refine wpList_nil ?_;rw [World.setRow_alloc_new];refine hK _ _ ?_;go_wp2_with fail
 exact za5 rfl rfl (heap_alloc_new w _) underlying251 rfl (by kernel_rfl) ⟨rfl,(Below.refl _ _).alloc xnl _⟩
theorem wstr_any (B b:Nat) (bs:List Value) (s:ByteArray) (w:World) (h:Lib.IsBuilder 255 5 B b bs w) (hlen:bs.length+s.size<=140737488355328) (hBw:B<=w.heap.size) :
  Calls prog 250 #[.pointer (some ⟨b,0,none⟩),.string s] w fun e w'=>e = .returned (.tuple #[.int .i64 s.size,.nilIface])/\(Lib.BuilderAt 255 5 B b (.pointer (some ⟨b,0,none⟩)) (bs++Lib.strCells s) w'/\Below B w w') :=
 Any.Builder_WriteString { Tryz.lays156 with } Tryz.Builder_Extra_156 B b bs s w h hlen hBw
theorem bstr_any (B b:Nat) (l:List UInt8) (w:World) (h:Lib.IsBuilder 255 5 B b (Lib.byteCells l) w) (hBw:B<=w.heap.size) :
  Calls prog 252 #[.pointer (some ⟨b,0,none⟩)] w fun e w'=>e = .returned (.string ⟨l.toArray⟩)/\Below B w w':=Tryz.Builder_String_any B b l w h hBw
theorem tok_pred (w:World):PredAt prog 254 #[] encR isSp w:=fun W r _=>by
 unfold FnGives;have e:isSp r=((r:Int) == 32):=by unfold isSp;rw [Bool.eq_iff_iff];simp;omega
 have E:=zjy e;clear e;go_enter func254,ntmps254
 go_wp2
 go_ret;exact ⟨zax E.o.symm,0,rfl⟩
abbrev za8 (l:List UInt8):List Value:=[zak l]
def StrsPost (L:List (List UInt8)) (w:World) (e:Ending) (w':World):Prop:=∃ A,e = .returned (.slice (some ⟨A,0,none⟩) L.length L.length)/\w.heap.size<=A/\w'.ownsRow w.heap.size 9 1 (.slice (some ⟨A,0,none⟩) L.length L.length) L.length (L.flatMap za8)/\Below w.heap.size w w'
theorem flat_str (L:List (List UInt8)):(L.map mkS).map Value.string=L.flatMap za8:=by
 induction L with
 | nil=>rfl
 | cons a L ih=>simp only [List.map_cons,List.flatMap_cons,ih];rfl
theorem zgk (l:List UInt8) (w:World) (h:ascii l) (hl:l.length<=1000000) :
  Calls prog 230 #[zak l] w (StrsPost (zcu l) w):=by
 have hsz:(mkS l).size=l.length:=by simp [mkS,ByteArray.size]
 have hc:=zjy (Tryz.strings_FieldsFunc 254 #[] (enters_of func254 (by kernel_rfl) rfl) isSp (mkS l) w (by omega) (tok_pred w))
 go_enter func230,ntmps230
 go_wp2_with fail
 refine hc.o.mono ?_;rintro e w1 ⟨A,rfl,hA,ho,hb⟩;rw [fields_toks l h,List.length_map] at *;have HO:=zjy ho;clear ho;go_wp2_with fail
 go_ret;exact ⟨A,rfl,hA,by rw [<- flat_str];exact HO.o,hb⟩
theorem join_any (S:Nat->Prop) (v:Value) (L:List (List UInt8)) (w:World) (h:Vec w S 1 za8 v L) (hn:L.length<=1000000) (hj:(za2 L).length<=1000000000) :
  Calls prog 232 #[v] w fun e w'=>e = .returned (zak (za2 L))/\Below w.heap.size w w':=by
 obtain ⟨a,a2,rfl,a1,h0⟩:=h
 have a0:Lib.join ((L.map mkS).map (·.data.toList)) [32]=za2 L:=by
  rw [List.map_map,<- join_toks];congr 1;conv=>rhs;rw [<- List.map_id L]
  exact List.map_congr_left fun x _=>by simp [mkS]
 have a3:Calls prog 237 #[.slice a L.length a2,.string ⟨#[32]⟩] w fun e w'=>e = .returned (zak (za2 L))/\Below w.heap.size w w':=by
  by_cases hz:L=[]
  ·subst hz
   exact (Tryz.strings_Join_none a a2 ⟨#[32]⟩ w).mono fun e w' ⟨he,hw⟩=>⟨he,by rw [hw];exact Below.refl _ _⟩
  ·obtain ⟨b,off,rfl,_,hb,hc⟩:=h0 (List.length_pos_iff.2 hz)
   have:=Tryz.strings_Join b off a2 (L.map mkS) ⟨#[32]⟩ w (fun j x hx=>by
    rw [List.getElem?_map] at hx;obtain ⟨y,hy,rfl⟩:=Option.map_eq_some_iff.1 hx;have:=hc j y hy 0 _ rfl
    simpa [mkS] using this) hb (by simp;omega) (by simpa using a1) (by rw [show (⟨#[32]⟩:ByteArray).data.toList=[32] from rfl,a0];omega)
   rw [show (⟨#[32]⟩:ByteArray).data.toList=[32] from rfl,a0,List.length_map] at this;exact this
 have a4:=zjy a3;clear a3 a0 h0;go_enter func232,ntmps232
 go_wp2_with fail
 refine a4.o.mono ?_;rintro e w1 ⟨rfl,hb⟩;go_wp2_with fail
 go_ret;exact ⟨rfl,hb⟩
end
section
open Go.RowKit
def okB (b:UInt8):Bool:=zf8 b || isDgt b || b == 32
theorem replT_ok:(replT.all fun x=>x.all okB && decide (x.length<=2))=true:=by decide
theorem replB_get (n:Nat) (h:n<64):replT[n]?=some (replT.getD n []):=by
 have:n<replT.length:=h;rw [List.getElem?_eq_getElem this];simp [List.getD,List.getElem?_eq_getElem this]
theorem replB_ok (b:UInt8):(∀ c∈zic b,okB c=true)/\(zic b).length<=2:=by
 unfold zic;by_cases h:b.toNat - 128<replT.length
 ·have hm:replT.getD (b.toNat - 128) []∈replT:=by
   simp only [List.getD,List.getElem?_eq_getElem h,Option.getD_some];exact List.getElem_mem h
  have:=List.all_eq_true.1 replT_ok _ hm;rw [Bool.and_eq_true,List.all_eq_true,decide_eq_true_iff] at this;exact this
 ·have:replT.getD (b.toNat - 128) []=[]:=by simp [List.getD,List.getElem?_eq_none (Nat.le_of_not_lt h)]
  rw [this];simp
theorem zgo (b:UInt8):(∀ c∈zbn b,okB c=true)/\(zbn b).length<=1:=by
 unfold zbn;split
 ·rename_i h
  refine ⟨fun c hc=>?_,by simp⟩
  simp at hc;subst hc
  have:zf8 (b+32)=true:=by
   rw [up_iff,decide_eq_true_iff] at h;rw [zdz,decide_eq_true_iff];have:=b.toNat_lt;have e:(b+32).toNat=b.toNat+32:=by rw [UInt8.toNat_add];simp;omega
   rw [e];omega
  simp [okB,this]
 ·split
  ·rename_i h
   refine ⟨fun c hc=>?_,by simp⟩
   simp at hc;subst hc;simp at h;simp [okB,h]
  ·split
   ·simp
   ·exact ⟨fun c hc=>by simp at hc;subst hc;rfl,by simp⟩
theorem raw_ok (l:List UInt8):(∀ c∈rawL l,okB c=true)/\(rawL l).length<=l.length:=by
 induction l using rawL.induct with
 | case1=>simp [rawL]
 | case2 a=>simp only [rawL];exact ⟨(zgo a).1,by simpa using (zgo a).2⟩
 | case3 a b r h ih =>
  simp only [rawL,h,if_true]
  refine ⟨fun c hc=>?_,by have:=(replB_ok b).2;simp;omega⟩
  rcases List.mem_append.1 hc with hc | hc
  ·exact (replB_ok b).1 c hc
  ·exact ih.1 c hc
 | case4 a b r h ih =>
  simp only [rawL,h]
  refine ⟨fun c hc=>?_,by have:=(zgo a).2;have:=ih.2;simp at *;omega⟩
  simp only [Bool.false_eq_true,if_false] at hc
  rcases List.mem_append.1 hc with hc | hc
  ·exact (zgo a).1 c hc
  ·exact ih.1 c hc
theorem okB_lt {b:UInt8} (h:okB b=true):b.toNat<128:=by
 unfold okB at h;simp only [Bool.or_eq_true,zdz,ze0,decide_eq_true_iff,beq_iff_eq] at h
 rcases h with (h | h) | h
 ·omega
 ·omega
 ·subst h;decide
theorem raw_ascii (l:List UInt8):ascii (rawL l):=fun b hb=>okB_lt ((raw_ok l).1 b hb)
theorem toksA_mem (l:List UInt8):∀ p,∀ t∈zbw p l,∀ b∈t,b∈p\/(b∈l/\b≠32):=by
 induction l with
 | nil =>
  intro p t ht b hb;simp only [zbw] at ht;split at ht
  ·simp at ht
  ·simp at ht;subst ht;exact .inl hb
 | cons c l ih =>
  intro p t ht b hb;by_cases hc:c=32
  ·subst hc
   by_cases hp:p=[]
   ·subst hp
    rw [zbm] at ht
    rcases ih [] t ht b hb with h | h
    ·simp at h
    ·exact .inr ⟨List.mem_cons_of_mem _ h.1,h.2⟩
   ·rw [zbz _ _ hp] at ht
    rcases List.mem_cons.1 ht with rfl | ht
    ·exact .inl hb
    ·rcases ih [] t ht b hb with h | h
     ·simp at h
     ·exact .inr ⟨List.mem_cons_of_mem _ h.1,h.2⟩
  ·rw [zb0 _ _ _ hc] at ht
   rcases ih _ t ht b hb with h | h
   ·rcases List.mem_append.1 h with h | h
    ·exact .inl h
    ·simp at h;subst h;exact .inr ⟨List.mem_cons_self,hc⟩
   ·exact .inr ⟨List.mem_cons_of_mem _ h.1,h.2⟩
theorem zbj (t:List UInt8) (L:List (List UInt8)) (h:L≠[]):za2 (t :: L)=t++[32]++za2 L:=by
 cases L with
 | nil=>exact absurd rfl h
 | cons b r=>rfl
theorem zd3 (l:List UInt8):∀ p,(za2 (zbw p l)).length<=p.length+l.length/\(zbw p l).length<=l.length+1/\(p=[]->l.length=0->zbw p l=[]):=by
 induction l with
 | nil =>
  intro p;simp only [zbw];split <;> simp_all [za2]
 | cons c l ih =>
  intro p;by_cases hc:c=32
  ·subst hc
   by_cases hp:p=[]
   ·subst hp
    rw [zbm];have:=ih [];simp at *;omega
   ·rw [zbz _ _ hp]
    have:=ih [];by_cases hq:zbw [] l=[]
    ·rw [hq];simp [za2];try omega
    ·rw [zbj _ _ hq];simp at *;omega
  ·rw [zb0 _ _ _ hc]
   have:=ih (p++[c]);simp at *;omega
theorem zg3 (l:List UInt8):(zbx l).length<=l.length:=by
 have h1:=(zd3 (rawL l) []).1;have h2:=(raw_ok l).2;unfold zbx zcu;simp at h1;omega
end
section
open Go.RowKit
theorem tbl_cell {w:World} {b:Nat} (h:w.heap[b]?=some (.cells tblV 251 (0,0))) (c:UInt8) (n:Nat) (hn:c.toNat=128+n) (h64:n<64):w.cell? ⟨b,n,none⟩=some (zak (zic c)):=by
 rw [cell_of_row w b n tblV _ _ h];unfold tblV zic;rw [hn,Nat.add_sub_cancel_left,List.getElem?_toArray,List.getElem?_map,replB_get n h64];rfl
theorem pairAt_snd (s:ByteArray) (i:Nat) (hi:i+1<s.size) (h:zdw (s.data.toList.drop i)=true):∃ n:Nat,s[i+1].toNat=128+n/\n<64:=by
 rw [zfn s i hi] at h;simp only [zdw,zh0,decide_eq_true_iff] at h;exact ⟨s[i+1].toNat - 128,by omega,by omega⟩
theorem zaj (l:List UInt8):(⟨l.toArray⟩:ByteArray).size=l.length:=by simp [ByteArray.size]
theorem put_len {acc x:List UInt8} {n:Nat} (h:acc.length<=n) (hn:n<=1000000) (hx:x.length<=2):(Lib.byteCells acc).length+(⟨x.toArray⟩:ByteArray).size<=140737488355328:=by
 rw [Lib.byteCells_length,zaj];omega
def FoldAt (w w1:World) (l:List UInt8) (k:Nat) (wr:World):Prop:=∃ acc:List UInt8,acc++rawL (l.drop k)=rawL l /\
 Lib.IsBuilder 255 5 (w1.heap.size+1) (w1.heap.size+1) (Lib.byteCells acc) wr/\wr.heap[w1.heap.size]?=some (.cells tblV 251 (0,0))/\Below w.heap.size w wr/\w1.heap.size+1<=wr.heap.size
theorem FoldAt.len {w w1:World} {l:List UInt8} {k:Nat} {wr:World} {acc:List UInt8} (h:acc++rawL (l.drop k)=rawL l):acc.length<=l.length:=by
 have:=congrArg List.length h;have h2:=(raw_ok l).2;simp at this;omega
theorem FoldAt.step {w w1 wr w2:World} {l acc x:List UInt8} {k k':Nat} (hacc:acc++rawL (l.drop k)=rawL l) (hx:rawL (l.drop k)=x++rawL (l.drop k')) (ht:wr.heap[w1.heap.size]?=some (.cells tblV 251 (0,0))) (hbw:Below w.heap.size w wr) (hz:w1.heap.size+1<=wr.heap.size) (hz1:w.heap.size<=w1.heap.size)
  (hB:Lib.BuilderAt 255 5 (w1.heap.size+1) (w1.heap.size+1) (.pointer (some ⟨w1.heap.size+1,0,none⟩)) (Lib.byteCells acc++Lib.strCells ⟨x.toArray⟩) w2) (hb2:Below (w1.heap.size+1) wr w2):FoldAt w w1 l k' w2:=by
 refine ⟨acc++x,by rw [List.append_assoc,<- hx];exact hacc,.inr ?_,(hb2.block _ (by omega)).trans ht,hbw.trans (hb2.mono (by omega)),Nat.le_trans hz hb2.size⟩;rw [Lib.byteCells_append];exact hB
theorem fold_yes (s:ByteArray) (w:World) (hs:s.size<=100000) (hv:zdi s.data.toList=true) :
  Calls prog 229 #[.string s] w fun e w'=>e = .returned (.tuple #[zak (zbx s.data.toList),.int .i64 0])/\Below w.heap.size w w':=by
 have hl:s.data.toList.length=s.size:=by simp
 have HL:=zjy hl;clear hl;have HV:=zjy hv;clear hv;go_enter func229,ntmps229
 go_wp2_with fail
 refine (tvalid_any s _ (by omega)).mono ?_;rw [HV.o];rintro e w' ⟨rfl,rfl⟩;go_wp2_with fail
 refine (repl_any _).mono ?_;rintro e w1 ⟨rfl,b6⟩;have b7:=zjy b6;clear b6;go_wp2_with (refine wpList_store_row rfl 251 (.tmp 4) (.tmp 10) rfl w1.heap.size tblV rfl rfl 251 _ (heap_alloc_new w1 _) (by kernel_rfl) (by kernel_rfl) (by kernel_rfl) ?_;rw [World.setRow_alloc_new])
 have a8:w.heap.size<=w1.heap.size:=b7.o.size;go_loopw [6] (fun i wr=>∃ k:Nat,k<=s.size/\i = .int .i64 k/\FoldAt w w1 s.data.toList k wr) (fun i _=>s.size - (intOf i).toNat)
 case atStart =>
  refine ⟨0,by omega,rfl,[],rfl,.inl ⟨Nat.le_refl _,_,by rw [show w1.heap.size+1=(w1.alloc (.cells tblV 251)).heap.size by simp];exact heap_alloc_new _ _,⟨rfl,.inl ⟨rfl,rfl⟩⟩,by simp [Value.ownBlock]⟩,zaf (zac rfl),(b7.o.alloc a8 _).alloc (by simp;omega) _,by simp⟩
 case round =>
  obtain ⟨k,hk,rfl,HF⟩:=hrel;have a3:=zjy HF;clear HF;by_cases hlt:k<s.size
  ·have hq:decide ((k:Int)<s.size)=true:=by simp;omega
   go_wp2_with fail
   refine (pair_any s k _ hlt (by omega)).mono ?_;rintro e w' ⟨rfl,rfl⟩;cases hp:zdw (s.data.toList.drop k)
   ·have HR:=zjy (raw_one s k hlt hp)
    clear hp;obtain ⟨a6,a0,hB,ht,a1,hz⟩:=a3.o;have a9:=FoldAt.len (w:=w) (w1:=w1) (wr:=wr) a0;have HA:=zjy a0;have HT:=zjy ht;have HW:=zjy a1;have HB:=zjy hB;clear a0 ht a1 hB a3;go_wp2_with fail
    refine (plain_any s[k] _).mono ?_;rintro e w' ⟨rfl,rfl⟩;have b2:=(zgo s[k]).2;go_wp2_with fail
    refine (wstr_any (w1.heap.size+1) (w1.heap.size+1) (Lib.byteCells a6) ⟨(zbn s[k]).toArray⟩ _ HB.o (put_len a9 (by rw [HL.o];omega) (by omega)) hz).mono ?_;rintro e w2 ⟨rfl,a5,a2⟩;have b0:=zjy (FoldAt.step HA.o HR.o HT.o HW.o hz a8 a5 a2);clear a5 a2;go_wp2_with fail
    go_roundw
    case rel=>exact ⟨k+1,by omega,by go_num,b0.o⟩
    case measure=>simp [intOf];omega
   ·have h2:=zhf s k hlt hp
    have HR:=zjy (raw_two s k h2 hp);obtain ⟨n,hn,a7⟩:=pairAt_snd s k h2 hp;clear hp;obtain ⟨a6,a0,hB,ht,a1,hz⟩:=a3.o;have a9:=FoldAt.len (w:=w) (w1:=w1) (wr:=wr) a0;have b3:=tbl_cell ht s[k+1] n hn a7;have hn':(s[k+1].toNat:Int)=128+(n:Int):=by omega
    have HA:=zjy a0;have HT:=zjy ht;have HW:=zjy a1;have HB:=zjy hB;clear a0 ht a1 hB a3 hn;go_wp2_with fail
    have b2:=(replB_ok s[k+1]).2;refine (wstr_any (w1.heap.size+1) (w1.heap.size+1) (Lib.byteCells a6) ⟨(zic s[k+1]).toArray⟩ _ HB.o (put_len a9 (by rw [HL.o];omega) b2) hz).mono ?_;rintro e w2 ⟨rfl,a5,a2⟩;have b0:=zjy (FoldAt.step HA.o HR.o HT.o HW.o hz a8 a5 a2);clear a5 a2;go_wp2_with fail
    go_roundw
    case rel=>exact ⟨k+2,by omega,by go_num,b0.o⟩
    case measure=>simp [intOf];omega
  ·have hq:decide ((k:Int)<s.size)=false:=by simp;omega
   obtain ⟨a6,a0,hB,ht,a1,hz⟩:=a3.o;rw [List.drop_eq_nil_of_le (by rw [HL.o];omega)] at a0;have a4:a6=rawL s.data.toList:=by simpa [rawL] using a0
   subst a4;have HW:=zjy a1;have HB:=zjy hB;clear a0 ht a1 hB a3;go_wp2_with fail
   refine (bstr_any (w1.heap.size+1) (w1.heap.size+1) _ _ HB.o hz).mono ?_;rintro e w2 ⟨rfl,a2⟩;have c0:=zjy (HW.o.trans (a2.mono (by omega)));clear a2;go_wp2_with fail
   have b1:=(raw_ok s.data.toList).2;refine (zgk (rawL s.data.toList) _ (raw_ascii _) (by rw [HL.o] at b1;omega)).mono ?_;rintro e w3 ⟨A,rfl,hA,ho,b5⟩;have hV:=zjy (Vec.owns (S:=zau) (k:=1) (enc:=za8) (fun _=>rfl) ho (fun _ _ _=>trivial))
   have b9:=xhh c0 b5;clear b5 ho;go_wp2_with fail
   refine (join_any zau _ (zcu (rawL s.data.toList)) _ hV.o (by have:=(zd3 (rawL s.data.toList) []).2.1;unfold zcu;rw [HL.o] at b1;omega) (by have:=zg3 s.data.toList;unfold zbx at this;rw [HL.o] at this;omega)).mono ?_;rintro e w4 ⟨rfl,b4⟩;have b8:=xhh b9 b4;clear b4;go_wp2_with fail
   go_ret2;exact ⟨rfl,b8.o⟩
theorem fold_no (s:ByteArray) (w:World) (hs:s.size<=9223372036854775000) (hv:zdi s.data.toList=false) :
  Calls prog 229 #[.string s] w fun e w'=>e = .returned (.tuple #[zak [],.int .i64 3])/\Below w.heap.size w w':=by
 have HV:=zjy hv;clear hv;go_enter func229,ntmps229
 go_wp2_with fail
 refine (tvalid_any s _ (by omega)).mono ?_;rw [HV.o];rintro e w' ⟨rfl,rfl⟩;go_wp2_with fail
 go_ret2;exact ⟨rfl,Below.refl _ _⟩
end
section
open Go.RowKit
@[local go_sem] theorem zag (l:List UInt8):(⟨l.toArray⟩:ByteArray).toList=l:=by
 rw [Lib.toList_data]
attribute [local go_sem] zaj
def zb8 (l:List UInt8):Bool:=bif l.isEmpty then false else bif decide (l.length<=64) then za7 l == l else false
theorem token_any (l:List UInt8) (w:World) :
  Calls prog 176 #[zak l] w fun e w'=>e = .returned (.bool (zb8 l))/\Below w.heap.size w w':=by
 unfold zb8;by_cases h0:l=[]
 ·subst h0
  go_enter func176,ntmps176
  go_wp2
  go_ret;exact ⟨rfl,Below.refl _ _⟩
 ·have h1:l.isEmpty=false:=by simpa using h0
  have h2:(l == [])=false:=by simpa using h0
  rw [h1];by_cases h3:l.length<=64
  ·have h4:decide (l.length<=64)=true:=by simpa using h3
   have h5:decide ((l.length:Int)<=64)=true:=by simp;omega
   rw [h4];clear h0 h4;go_enter func176,ntmps176
   go_wp2_with fail
   refine (zir ⟨l.toArray⟩ _ (by rw [zaj];omega)).mono ?_;rintro e w1 ⟨rfl,hb⟩;go_wp2_with fail
   go_ret;exact ⟨rfl,hb⟩
  ·have h4:decide (l.length<=64)=false:=by simpa using h3
   have h5:decide ((l.length:Int)<=64)=false:=by simp;omega
   rw [h4];clear h0 h4;go_enter func176,ntmps176
   go_wp2_with fail
   go_ret;exact ⟨rfl,Below.refl _ _⟩
end
section
open Go.RowKit
attribute [local go_sem] zag zaj
abbrev P2:=List UInt8 × List UInt8
def encP (x:P2):List Value:=[zak x.1,zak x.2]
theorem pred_find (s:List UInt8) (B:Nat) (w:World) (hB:B<w.heap.size) (hcell:w.cell? ⟨B,0,none⟩=some (zak s)) :
  PredBelow prog 203 #[.pointer (some ⟨B,0,none⟩)] (fun x=>.agg (encP x).toArray) (fun x=>x.1 == s) w:=fun W x hb=>by
 have hc:W.cell? ⟨B,0,none⟩=some (zak s):=(hb.cell (p:=⟨B,0,none⟩) hB).trans hcell;have hBW:B<W.heap.size:=Nat.lt_of_lt_of_le hB hb.size;have hne:B≠W.heap.size:=by omega
 have a0:=zjy hb;clear hb hcell;show Calls prog 203 #[.agg #[zak x.1,zak x.2],.pointer (some ⟨B,0,none⟩)] W _;go_enter func203,ntmps203
 go_wp2
 go_ret;exact ⟨rfl,a0.o.alloc a0.o.size _⟩
theorem idxP_nil (a:Option Addr) (c:Nat) (f:Value) (w:World) :
  Calls prog 178 #[.slice a 0 c,f] w fun e w'=>e = .returned (.int .i64 (-1))/\w=w':=by
 go_enter func178,ntmps178
 go_wp2
 refine wp_loop_rounds 1 ?_;rw [rounds_succ];go_wp2
 go_ret;exact ⟨rfl,rfl⟩
def zjn (L:List P2) (s:List UInt8):Int:=Lib.idxBy (fun _ (y:P2)=>y.1 == s) L default
theorem find_any (S : Nat → Prop) (v : Value) (L : List P2) (s : List UInt8) (w : World) (h : Vec w S 2 encP v L) (hn : L.length ≤ 1000000) :
    Calls prog 177 #[v, zak s] w fun e w' => e = .returned (.int .i64 (zjn L s)) ∧ Below w.heap.size w w' := by
  obtain ⟨a, cap, rfl, hcap, h0⟩ := h
  by_cases hz : L = []
  · subst hz
    clear h0
    go_enter func177, ntmps177
    go_wp2_with fail
    refine (idxP_nil a cap _ _).mono ?_
    rintro e w1 ⟨rfl, rfl⟩
    go_wp2_with fail
    go_ret
    exact ⟨rfl, (Below.refl _ _).alloc xnl _⟩
  · obtain ⟨b, off, rfl, _, hb, hc⟩ := h0 (List.length_pos_iff.2 hz)
    have eg : ∀ args w, (callFunc 203 args).run prog w = .ok (.enter 203 args) w := enters_of func203 (by kernel_rfl) rfl
    have hcon := AnyQ.slices_IndexFunc Tryz.laysIP 2 Tryz.isAgg122 Tryz.sizeOf122 encP (fun _ => rfl) (fun x => x.1 == s) 203 #[.pointer (some ⟨w.heap.size, 0, none⟩)] eg b off L.length cap L (w.alloc (.cells #[zak s] 9))
      (pred_find s w.heap.size _ (by simp) (by simp)) xnl (by omega) (by simp; omega) (fun j hj i u hi => by
        refine Lib.cell?_alloc_some _ ?_
        have e : L[j]? = some L[j]! := by rw [List.getElem?_eq_getElem hj, getElem!_pos L j hj]
        exact hc j _ e i u hi)
    rw [List.take_of_length_le xnl] at hcon
    have HC := zjy hcon
    clear hcon hc h0
    go_enter func177, ntmps177
    go_wp2_with fail
    refine HC.o.mono ?_
    rintro e w1 ⟨rfl, hb1⟩
    go_wp2_with fail
    go_ret
    exact ⟨rfl, ((Below.refl _ w).alloc xnl _).trans (hb1.mono (by simp))⟩
end
section
open Go.RowKit
attribute [local go_sem] zag zaj
def ltB (a b:List UInt8):Bool:=Op.bytesLess a b
def zfs (L:List (List UInt8)) (j:Nat):Bool:=zb8 (L.getD j []) && (decide (j=0) || ltB (L.getD (j - 1) []) (L.getD j []))
def zfh (L:List (List UInt8)):Bool:=(List.range L.length).all (zfs L)
def zdy (L:List P2) (j:Nat):Bool:=zb8 (L.getD j default).1 && zb8 (L.getD j default).2 && (decide (j=0) || ltB (L.getD (j - 1) default).1 (L.getD j default).1) && decide (zjn L (L.getD j default).2<0)
def zcg (L:List P2):Bool:=(List.range L.length).all (zdy L)
theorem zb9 {n:Nat} {p:Nat->Bool} {k:Nat} (hk:k<n) (h:p k=false):(List.range n).all p=false:=by
 rw [List.all_eq_false];exact ⟨k,List.mem_range.2 hk,by simp [h]⟩
theorem zju {n:Nat} {p:Nat->Bool} (h:∀ j,j<n->p j=true):(List.range n).all p=true:=by
 rw [List.all_eq_true];intro j hj;exact h j (List.mem_range.1 hj)
theorem zb7 {w:World} {S:Nat->Prop} {a:Option Addr} {n cap:Nat} {L:List (List UInt8)} (h:Vec w S 1 za8 (.slice a n cap) L) (h0:0<L.length):∃ b off,a=some ⟨b,off,none⟩/\S b/\b<w.heap.size/\∀ j,j<L.length->w.cell? ⟨b,off+j,none⟩=some (zak (L.getD j [])):=by
 obtain ⟨a',a0,h1,h2,h3⟩:=h;cases h1;obtain ⟨b,off,h4,hS,h5,h6⟩:=h3 h0
 refine ⟨b,off,h4,hS,h5,fun j hj=>?_⟩
 have:=h6 j L[j] (List.getElem?_eq_getElem hj) 0 _ rfl;rw [List.getD,List.getElem?_eq_getElem hj];simpa using this
theorem titles_any (S:Nat->Prop) (v:Value) (L:List (List UInt8)) (w:World) (h:Vec w S 1 za8 v L) (hn:L.length<=1000000) :
  Calls prog 131 #[v] w fun e w'=>e = .returned (.bool (zfh L))/\Below w.heap.size w w':=by
 obtain ⟨a,cap,rfl⟩:=h.slice;by_cases hz:L=[]
 ·subst hz
  clear h;go_enter func131,ntmps131
  go_wp2
  refine wp_loop_rounds 1 ?_;rw [rounds_succ];go_wp2
  go_ret;exact ⟨rfl,Below.refl _ _⟩
 ·obtain ⟨b,off,rfl,_,hb,hc⟩:=zb7 h (List.length_pos_iff.2 hz)
  have HC:=zjy hc;clear hc h hz;go_enter func131,ntmps131
  go_wp2_with fail
  go_loopw [7] (fun i wr=>∃ k:Nat,k<=L.length/\i = .int .i64 k/\Below w.heap.size w wr/\∀ j,j<k->zfs L j=true) (fun i _=>L.length - (intOf i).toNat)
  case atStart=>exact ⟨0,by omega,rfl,Below.refl _ _,fun j hj=>by omega⟩
  case round =>
   obtain ⟨k,hk,rfl,a0,ha⟩:=hrel;have HA:=zjy ha;clear ha;by_cases hlt:k<L.length
   ·have hq:decide ((k:Int)<L.length)=true:=by simp;omega
    have hi:(k:Int)<(L.length:Int):=by omega
    have c1:wr.cell? ⟨b,off+k,none⟩=some (zak (L.getD k [])):=(a0.cell (p:=⟨b,off+k,none⟩) hb).trans (HC.o k hlt);have HW:=zjy a0;clear a0;obtain ⟨x,hx⟩:=xex (L.getD k []);rw [hx] at c1;have HX:=zjy hx;clear hx;go_wp2_with fail
    refine (token_any x _).mono ?_;rintro e w2 ⟨rfl,a2⟩;have a1:=xhh HW a2;clear a2 HW c1;cases ht:zb8 x
    ·have HT:=zjy (show zfs L k=false by simp only [zfs];rw [HX.o,ht];rfl);clear ht
     go_wp2_with fail
     go_ret;exact ⟨zax (by rw [zfh,zb9 hlt HT.o]),a1.o⟩
    ·by_cases hk0:k=0
     ·subst hk0
      have HT:=zjy (show zfs L 0=true by simp only [zfs];rw [HX.o,ht];rfl);clear ht;go_wp2_with fail
      go_roundw
      case rel=>exact ⟨1,by omega,by go_num,a1.o,fun j hj=>by (obtain rfl:j=0:=by omega);exact HT.o⟩
      case measure=>simp [intOf];omega
     ·obtain ⟨m,rfl⟩:∃ m,k=m+1:=⟨k - 1,by omega⟩
      have c2:w2.cell? ⟨b,off+m,none⟩=some (zak (L.getD m [])):=(a1.o.cell (p:=⟨b,off+m,none⟩) hb).trans (HC.o m (by omega));obtain ⟨y,hy⟩:=xex (L.getD m []);rw [hy] at c2;have HT:=zjy (show zfs L (m+1)=Op.bytesLess y x by simp only [zfs,Nat.add_sub_cancel];rw [HX.o,hy,ht];simp [ltB]);clear ht hy hk0;cases hl:Op.bytesLess y x
      ·rw [hl] at HT
       go_wp2_with fail
       go_ret;exact ⟨zax (by rw [zfh,zb9 hlt HT.o]),a1.o⟩
      ·rw [hl] at HT
       go_wp2_with fail
       go_roundw
       case rel=>exact ⟨m+2,by omega,by go_num,a1.o,fun j hj=>by
        by_cases e:j=m+1
        ·subst e;exact HT.o
        ·exact HA.o j (by omega)⟩
       case measure=>simp [intOf];omega
   ·have hq:decide ((k:Int)<L.length)=false:=by simp;omega
    have HW:=zjy a0;clear a0;go_wp2_with fail
    go_ret;exact ⟨zax (by rw [zfh,zju fun j hj=>HA.o j (by omega)]),HW.o⟩
theorem zco {α:Type} [Inhabited α] {enc:α->List Value} {w:World} {S:Nat->Prop} {a:Option Addr} {n cap:Nat} {L:List α} (h:Vec w S 2 enc (.slice a n cap) L) (h0:0<L.length):∃ b off,a=some ⟨b,off,none⟩/\S b/\b<w.heap.size/\∀ j,j<L.length->∀ i u,(enc (L.getD j default))[i]?=some u->w.cell? ⟨b,off+j*2+i,none⟩=some u:=by
 obtain ⟨a',a0,h1,h2,h3⟩:=h;cases h1;obtain ⟨b,off,h4,hS,h5,h6⟩:=h3 h0
 refine ⟨b,off,h4,hS,h5,fun j hj i u hu=>?_⟩
 rw [List.getD,List.getElem?_eq_getElem hj] at hu;exact h6 j L[j] (List.getElem?_eq_getElem hj) i u hu
theorem zh3 {P:Program} {f:FuncId} {args:Array Value} {v:Value} (w:World) (h:∀ W,Below w.heap.size w W->Calls P f args W fun e w'=>e = .returned v/\Below W.heap.size W w') :
  ∀ d os,Calls P f args (Sort.grow (redrawn w d) os) fun e w''=>e = .returned v/\∃ p:Regrown,w''=Sort.grow (redrawn w p.d) p.os:=fun d os=>Calls.regrown_of (h _ (below_regrown w d os))
theorem find_in (v:Value) (L:List P2) (s:List UInt8) (w:World) (h:Vec w zau 2 encP v L) (hn:L.length<=1000000) (W:World) (hb:Below w.heap.size w W):Calls prog 177 #[v,zak s] W fun e w'=>e = .returned (.int .i64 (zjn L s))/\Below W.heap.size W w' :=
 find_any zau v L s W (h.below hb) hn
theorem pairs_any (S:Nat->Prop) (v:Value) (L:List P2) (w:World) (h:Vec w S 2 encP v L) (hn:L.length<=1000000) :
  Calls prog 132 #[v] w fun e w'=>e = .returned (.bool (zcg L))/\Below w.heap.size w w':=by
 obtain ⟨a,cap,rfl⟩:=h.slice;by_cases hz:L=[]
 ·subst hz
  clear h;go_enter func132,ntmps132
  go_wp2
  refine wp_loop_rounds 1 ?_;rw [rounds_succ];go_wp2
  go_ret;exact ⟨rfl,Below.refl _ _⟩
 ·have HV:=zjy h.any
  obtain ⟨b,off,rfl,_,hb,hc⟩:=zco h (List.length_pos_iff.2 hz);have HC:=zjy hc;clear hc h hz;go_enter func132,ntmps132
  go_wp2_with fail
  go_loopw [7] (fun i wr=>∃ k:Nat,k<=L.length/\i = .int .i64 k/\Below w.heap.size w wr/\∀ j,j<k->zdy L j=true) (fun i _=>L.length - (intOf i).toNat)
  case atStart=>exact ⟨0,by omega,rfl,Below.refl _ _,fun j hj=>by omega⟩
  case round =>
   obtain ⟨k,hk,rfl,a7,ha⟩:=hrel;have HA:=zjy ha;clear ha;by_cases hlt:k<L.length
   ·have hq:decide ((k:Int)<L.length)=true:=by simp;omega
    have hi:(k:Int)<(L.length:Int):=by omega
    obtain ⟨x,hx⟩:=xex (L.getD k default);have hc:=HC.o k hlt;rw [hx] at hc;have c0:wr.cell? ⟨b,off+k*2,none⟩=some (zak x.1):=(a7.cell (p:=⟨b,off+k*2,none⟩) hb).trans (hc 0 _ rfl);have c1:wr.cell? ⟨b,off+k*2+1,none⟩=some (zak x.2):=(a7.cell (p:=⟨b,off+k*2+1,none⟩) hb).trans (hc 1 _ rfl);have HX:=zjy hx;clear hx hc;have HW:=zjy a7;clear a7;go_wp2_with fail
    refine zal (fun wS hS=>?_)
    obtain ⟨xf,xt⟩:=x;have bS:=xal hS
    have k0:=cell_regrown (show wS.cell? ⟨wr.heap.size,0,none⟩=some (zak xf) by rw [hS];simp);have k1:=cell_regrown (show wS.cell? ⟨wr.heap.size,1,none⟩=some (zak xt) by rw [hS];simp);have a1:=xhh HW bS;clear bS hS c0 c1 HW;have a6:=zh3 wS (fun W _=>token_any xf W)
    have a5:=zh3 wS (fun W _=>token_any xt W)
    have cF:=zh3 wS (find_in _ L xt wS (HV.o.below a1.o) hn);have a0:zdy L k=(zb8 xf && zb8 xt && (decide (k=0) || ltB (L.getD (k - 1) default).1 xf) && decide (zjn L xt<0)):=by simp only [zdy];rw [HX.o]
    generalize zjn L xt=n at *;cases ht1:zb8 xf
    ·rw [ht1] at a6 a0
     have HF:=zjy (show zdy L k=false by rw [a0];rfl);clear ht1 a0;go_wp2_with fail
     refine wp_region_quiet_below (by kernel_rfl) (by kernel_rfl) ?_;repeat (go_big_quiet_step (first | with_reducible exact a6 _ _ | with_reducible exact a5 _ _ | with_reducible exact cF _ _))
     refine wpQuiet_nil ?_;intro _ a3;obtain ⟨⟨dq,a2⟩,hw''⟩:=a3;subst hw'';have a4:=zjy (a1.o.trans ((below_regrown wS dq a2).mono a1.o.size));go_wp2_with fail
     go_ret;exact ⟨zax (by rw [zcg,zb9 hlt HF.o]),a4.o⟩
    ·rw [ht1] at a6 a0
     clear ht1;cases ht2:zb8 xt
     ·rw [ht2] at a5 a0
      have HF:=zjy (show zdy L k=false by rw [a0];rfl);clear ht2 a0;go_wp2_with fail
      refine wp_region_quiet_below (by kernel_rfl) (by kernel_rfl) ?_;repeat (go_big_quiet_step (first | with_reducible exact a6 _ _ | with_reducible exact a5 _ _ | with_reducible exact cF _ _))
      refine wpQuiet_nil ?_;intro _ a3;obtain ⟨⟨dq,a2⟩,hw''⟩:=a3;subst hw'';have a4:=zjy (a1.o.trans ((below_regrown wS dq a2).mono a1.o.size));go_wp2_with fail
      go_ret;exact ⟨zax (by rw [zcg,zb9 hlt HF.o]),a4.o⟩
     ·rw [ht2] at a5 a0
      clear ht2;by_cases hk0:k=0
      ·subst hk0
       by_cases hneg:n<0
       ·have HF:=zjy (show zdy L 0=true by rw [a0];simp [hneg])
        clear a0;go_wp2_with fail
        refine wp_region_quiet_below (by kernel_rfl) (by kernel_rfl) ?_;repeat (go_big_quiet_step (first | with_reducible exact a6 _ _ | with_reducible exact a5 _ _ | with_reducible exact cF _ _))
        refine wpQuiet_nil ?_;intro _ a3;obtain ⟨⟨dq,a2⟩,hw''⟩:=a3;subst hw'';have a4:=zjy (a1.o.trans ((below_regrown wS dq a2).mono a1.o.size));go_wp2_with fail
        go_roundw
        case rel=>exact ⟨1,by omega,by go_num,a4.o,fun j hj=>by
         by_cases e:j=0
         ·subst e;exact HF.o
         ·exact HA.o j (by omega)⟩
        case measure=>simp [intOf];omega
       ·have HF:=zjy (show zdy L 0=false by rw [a0];simp [hneg])
        have a9:0<=n:=by omega
        clear a0;go_wp2_with fail
        refine wp_region_quiet_below (by kernel_rfl) (by kernel_rfl) ?_;repeat (go_big_quiet_step (first | with_reducible exact a6 _ _ | with_reducible exact a5 _ _ | with_reducible exact cF _ _))
        refine wpQuiet_nil ?_;intro _ a3;obtain ⟨⟨dq,a2⟩,hw''⟩:=a3;subst hw'';have a4:=zjy (a1.o.trans ((below_regrown wS dq a2).mono a1.o.size));go_wp2_with fail
        go_ret;exact ⟨zax (by rw [zcg,zb9 hlt HF.o]),a4.o⟩
      ·obtain ⟨m,rfl⟩:∃ m,k=m+1:=⟨k - 1,by omega⟩
       obtain ⟨y,hy⟩:=xex (L.getD m default);have a8:=HC.o m (by omega);rw [hy] at a8;have k2:=cell_regrown (show wS.cell? ⟨b,off+m*2,none⟩=some (zak y.1) from (a1.o.cell (p:=⟨b,off+m*2,none⟩) hb).trans (a8 0 _ rfl));rw [Nat.add_sub_cancel,hy] at a0;clear a8 hy hk0;obtain ⟨yf,yt⟩:=y;dsimp only at k2 a0;unfold ltB at a0;cases hl:Op.bytesLess yf xf
       ·rw [hl] at a0
        have HF:=zjy (show zdy L (m+1)=false by rw [a0];simp);clear a0;go_wp2_with fail
        refine wp_region_quiet_below (by kernel_rfl) (by kernel_rfl) ?_;repeat (go_big_quiet_step (first | with_reducible exact a6 _ _ | with_reducible exact a5 _ _ | with_reducible exact cF _ _))
        refine wpQuiet_nil ?_;intro _ a3;obtain ⟨⟨dq,a2⟩,hw''⟩:=a3;subst hw'';have a4:=zjy (a1.o.trans ((below_regrown wS dq a2).mono a1.o.size));go_wp2_with fail
        go_ret;exact ⟨zax (by rw [zcg,zb9 hlt HF.o]),a4.o⟩
       ·rw [hl] at a0
        by_cases hneg:n<0
        ·have HF:=zjy (show zdy L (m+1)=true by rw [a0];simp [hneg])
         clear a0;go_wp2_with fail
         refine wp_region_quiet_below (by kernel_rfl) (by kernel_rfl) ?_;repeat (go_big_quiet_step (first | with_reducible exact a6 _ _ | with_reducible exact a5 _ _ | with_reducible exact cF _ _))
         refine wpQuiet_nil ?_;intro _ a3;obtain ⟨⟨dq,a2⟩,hw''⟩:=a3;subst hw'';have a4:=zjy (a1.o.trans ((below_regrown wS dq a2).mono a1.o.size));go_wp2_with fail
         go_roundw
         case rel=>exact ⟨m+2,by omega,by go_num,a4.o,fun j hj=>by
          by_cases e:j=m+1
          ·subst e;exact HF.o
          ·exact HA.o j (by omega)⟩
         case measure=>simp [intOf];omega
        ·have HF:=zjy (show zdy L (m+1)=false by rw [a0];simp [hneg])
         have a9:0<=n:=by omega
         clear a0;go_wp2_with fail
         refine wp_region_quiet_below (by kernel_rfl) (by kernel_rfl) ?_;repeat (go_big_quiet_step (first | with_reducible exact a6 _ _ | with_reducible exact a5 _ _ | with_reducible exact cF _ _))
         refine wpQuiet_nil ?_;intro _ a3;obtain ⟨⟨dq,a2⟩,hw''⟩:=a3;subst hw'';have a4:=zjy (a1.o.trans ((below_regrown wS dq a2).mono a1.o.size));go_wp2_with fail
         go_ret;exact ⟨zax (by rw [zcg,zb9 hlt HF.o]),a4.o⟩
   ·have hq:decide ((k:Int)<L.length)=false:=by simp;omega
    have HW:=zjy a7;clear a7;go_wp2_with fail
    go_ret;exact ⟨zax (by rw [zcg,zju fun j hj=>HA.o j (by omega)]),HW.o⟩
end
section
open Go.RowKit
attribute [local go_sem] zag zaj
structure RulesL where
 titles:List (List UInt8)
 nicks:List P2
 streets:List P2
def RulesAt (w:World) (S:Nat->Prop) (vt vn vs:Value) (r:RulesL):Prop:=Vec w S 1 za8 vt r.titles/\Vec w S 2 encP vn r.nicks/\Vec w S 2 encP vs r.streets
theorem RulesAt.below {w w':World} {S:Nat->Prop} {vt vn vs:Value} {r:RulesL} (h:RulesAt w S vt vn vs r) (hb:Below w.heap.size w w'):RulesAt w' S vt vn vs r:=⟨h.1.below hb,h.2.1.below hb,h.2.2.below hb⟩
theorem RulesAt.any {w:World} {S:Nat->Prop} {vt vn vs:Value} {r:RulesL} (h:RulesAt w S vt vn vs r):RulesAt w zau vt vn vs r:=⟨h.1.any,h.2.1.any,h.2.2.any⟩
def zhk (L:List (List UInt8)) (s:List UInt8):Bool:=L.any fun x=>x == s
theorem mkS_inj {a b:List UInt8} (h:mkS a=mkS b):a=b:=by
 have:=congrArg (fun s:ByteArray=>s.data.toList) h
 simpa [mkS] using this
theorem contains_has (L:List (List UInt8)) (s:List UInt8):Lib.containsS (L.map mkS) (mkS s)=zhk L s:=by
 rw [Bool.eq_iff_iff,Lib.containsS_iff];unfold zhk;rw [List.any_eq_true];constructor
 ·intro h
  obtain ⟨x,hx,he⟩:=List.mem_map.1 h;have:x=s:=mkS_inj he;subst this;exact ⟨x,hx,by simp⟩
 ·rintro ⟨x,hx,he⟩
  have:x=s:=by simpa using he
  subst this;exact List.mem_map.2 ⟨x,hx,rfl⟩
theorem contains_any (S:Nat->Prop) (v:Value) (L:List (List UInt8)) (s:List UInt8) (w:World) (h:Vec w S 1 za8 v L) (hn:L.length<=1000000) :
  Calls prog 179 #[v,zak s] w fun e w'=>e = .returned (.bool (zhk L s))/\w=w':=by
 obtain ⟨a,a1,rfl⟩:=h.slice;by_cases hz:L=[]
 ·subst hz
  exact (Tryz.slices_Contains_string_empty a a1 (mkS s) w).mono fun e w' ⟨he,hw⟩=>⟨he,hw.symm⟩
 ·obtain ⟨b,off,rfl,_,hb,hc⟩:=zb7 h (List.length_pos_iff.2 hz)
  have:=Tryz.slices_Contains_string b off L.length a1 (L.map mkS) (mkS s) w (by simp) (by omega) (fun j hj=>by
   have a0:j<L.length:=by simpa using hj
   rw [hc j a0,List.getD,List.getD,List.getElem?_map,List.getElem?_eq_getElem a0];rfl)
  rw [List.take_of_length_le (by simp),contains_has] at this;exact this.mono fun e w' ⟨he,hw⟩=>⟨he,hw.symm⟩
theorem dropped_any (S:Nat->Prop) (vt vn vs:Value) (L:List (List UInt8)) (s:List UInt8) (w:World) (h:Vec w S 1 za8 vt L) (hn:L.length<=1000000) :
  Calls prog 135 #[.agg #[vt,vn,vs],zak s] w fun e w'=>e = .returned (.bool (zhk L s))/\Below w.heap.size w w':=by
 have HV:=zjy h;clear h;go_enter func135,ntmps135
 go_wp2_with fail
 refine (contains_any S vt L s _ (HV.o.below ((Below.refl _ _).alloc xnl _)) hn).mono ?_;rintro e w1 ⟨rfl,rfl⟩;go_wp2_with fail
 go_ret;exact ⟨rfl,(Below.refl _ _).alloc xnl _⟩
theorem pred_check (vt vn vs:Value) (L:List (List UInt8)) (B:Nat) (w:World) (hL:Vec w zau 1 za8 vt L) (hn:L.length<=1000000) (hB:B<w.heap.size) (h0:w.cell? ⟨B,0,none⟩=some vt) (h1:w.cell? ⟨B,1,none⟩=some vn) (h2:w.cell? ⟨B,2,none⟩=some vs) :
  PredBelow prog 134 #[.pointer (some ⟨B,0,none⟩)] (fun x=>.agg (encP x).toArray) (fun x=>zhk L x.2) w:=fun W x hb=>by
 have c0:W.cell? ⟨B,0,none⟩=some vt:=(hb.cell (p:=⟨B,0,none⟩) hB).trans h0;have c1:W.cell? ⟨B,1,none⟩=some vn:=(hb.cell (p:=⟨B,1,none⟩) hB).trans h1;have c2:W.cell? ⟨B,2,none⟩=some vs:=(hb.cell (p:=⟨B,2,none⟩) hB).trans h2;have hBW:B<W.heap.size:=Nat.lt_of_lt_of_le hB hb.size;have hne:B≠W.heap.size:=by omega
 have HV:=zjy (hL.below hb);have a0:=zjy hb;clear hb h0 h1 h2 hL;obtain ⟨xf,xt⟩:=x;show Calls prog 134 #[.agg #[zak xf,zak xt],.pointer (some ⟨B,0,none⟩)] W _;go_enter func134,ntmps134
 go_wp2_with fail
 refine (dropped_any zau vt vn vs L xt _ (HV.o.below ((Below.refl _ _).alloc xnl _)) hn).mono ?_;rintro e w1 ⟨rfl,a1⟩;go_wp2_with fail
 go_ret;exact ⟨rfl,(a0.o.alloc a0.o.size _).trans (a1.mono (by have:=a0.o.size;simp;omega))⟩
theorem contP_nil (a:Option Addr) (c:Nat) (f:Value) (w:World) :
  Calls prog 133 #[.slice a 0 c,f] w fun e w'=>e = .returned (.bool false)/\w=w':=by
 go_enter func133,ntmps133
 go_wp2_with fail
 refine (idxP_nil a c _ _).mono ?_;rintro e w1 ⟨rfl,rfl⟩;go_wp2_with fail
 go_ret;exact ⟨rfl,rfl⟩
theorem contP_any (p:P2->Bool) (g:Nat) (lb:Array Value) (eg:∀ args w,(callFunc g args).run prog w = .ok (.enter g args) w) (S:Nat->Prop) (v:Value) (L:List P2) (w:World) (h:Vec w S 2 encP v L) (hn:L.length<=1000000) (hp:PredBelow prog g lb (fun x=>.agg (encP x).toArray) p w) :
  Calls prog 133 #[v,.func (.func g) #[] lb] w fun e w'=>e = .returned (.bool (L.any p))/\Below w.heap.size w w':=by
 obtain ⟨a,a1,rfl,a2,h0⟩:=h;by_cases hz:L=[]
 ·subst hz
  exact (contP_nil a a1 _ w).mono fun e w' ⟨he,hw⟩=>⟨he,by rw [<- hw];exact Below.refl _ _⟩
 ·obtain ⟨b,off,rfl,_,hb,hc⟩:=h0 (List.length_pos_iff.2 hz)
  have a0:=AnyQ.slices_ContainsFunc Tryz.laysCP 2 Tryz.isAgg122 Tryz.sizeOf122 encP (fun _=>rfl) p g lb eg b off L.length a1 L w hp xnl (by omega) hb (fun j hj i u hi=>by
    have e:L[j]?=some L[j]!:=by rw [List.getElem?_eq_getElem hj,getElem!_pos L j hj]
    exact hc j _ e i u hi)
  rw [List.take_of_length_le xnl] at a0;exact a0
def zaz (r:RulesL):Int :=
 if 32<r.titles.length\/32<r.nicks.length\/32<r.streets.length then 1
 else if zfh r.titles=true/\zcg r.nicks=true/\zcg r.streets=true then (if (r.nicks.any fun x=>zhk r.titles x.2)=true then 5 else 0) else 5
theorem zex (S:Nat->Prop) (vt vn vs:Value) (r:RulesL) (w:World) (h:RulesAt w S vt vn vs r) :
  Calls prog 90 #[.agg #[vt,vn,vs]] w fun e w'=>e = .returned (.int .i64 (zaz r))/\Below w.heap.size w w':=by
 obtain ⟨lt,ln,ls⟩:=r;obtain ⟨h1,h2,h3⟩:=h;dsimp only at h1 h2 h3;obtain ⟨b1,ct,rfl⟩:=h1.slice;obtain ⟨an,cn,rfl⟩:=h2.slice;obtain ⟨b2,cs,rfl⟩:=h3.slice;have H1:=zjy h1.any;have H2:=zjy h2.any;have H3:=zjy h3.any;clear h1 h2 h3;have a0:∀ n:Int,zaz ⟨lt,ln,ls⟩=n->Ending.returned (.int .i64 n) = .returned (.int .i64 (zaz ⟨lt,ln,ls⟩)):=fun n h=>by rw [h]
 have HF:=zjy a0;clear a0;by_cases g1:32<lt.length
 ·have e1:decide ((32:Int)<lt.length)=true:=by simp;omega
  go_enter func90,ntmps90
  go_wp2_with fail
  go_ret;exact ⟨HF.o 1 (by unfold zaz;rw [if_pos (.inl g1)]),(Below.refl _ _).alloc xnl _⟩
 ·have e1:decide ((32:Int)<lt.length)=false:=by simp;omega
  by_cases g2:32<ln.length
  ·have e2:decide ((32:Int)<ln.length)=true:=by simp;omega
   go_enter func90,ntmps90
   go_wp2_with fail
   go_ret;exact ⟨HF.o 1 (by unfold zaz;rw [if_pos (.inr (.inl g2))]),(Below.refl _ _).alloc xnl _⟩
  ·have e2:decide ((32:Int)<ln.length)=false:=by simp;omega
   by_cases g3:32<ls.length
   ·have e3:decide ((32:Int)<ls.length)=true:=by simp;omega
    go_enter func90,ntmps90
    go_wp2_with fail
    go_ret;exact ⟨HF.o 1 (by unfold zaz;rw [if_pos (.inr (.inr g3))]),(Below.refl _ _).alloc xnl _⟩
   ·have e3:decide ((32:Int)<ls.length)=false:=by simp;omega
    go_enter func90,ntmps90
    go_wp2_with fail
    clear e1 e2 e3;refine (titles_any zau _ lt _ (H1.o.below ((Below.refl _ _).alloc xnl _)) (by omega)).mono ?_;rintro e w1 ⟨rfl,a6⟩;have X1:w1.heap[w.heap.size]?=some (.cells #[.slice b1 lt.length ct,.slice an ln.length cn,.slice b2 ls.length cs] 31 (0,0)):=zab a6 (by simp) (zac rfl);obtain ⟨p0,p1,p2⟩:=zan X1;have z1:=zaa X1;have a3:=zjy (xbt a6);have a9:=zjy X1;clear X1 a6;cases ht:zfh lt
    ·have HT:=zjy ht;clear ht
     go_wp2_with fail
     go_ret;exact ⟨HF.o 5 (by unfold zaz;rw [if_neg (show ¬ (32<lt.length\/32<ln.length\/32<ls.length) by omega),HT.o];simp),a3.o⟩
    ·have HT:=zjy ht;clear ht
     go_wp2_with fail
     refine (pairs_any zau _ ln _ (H2.o.below a3.o) (by omega)).mono ?_;rintro e w2 ⟨rfl,a5⟩;clear p0 p1 p2;have X2:=zab a5 z1 a9.o;obtain ⟨p0,p1,p2⟩:=zan X2;have z2:=zaa X2;have a2:=xhh a3 a5;have a8:=zjy X2;clear X2 a5 a9 a3;cases hp:zcg ln
     ·have HP:=zjy hp;clear hp
      go_wp2_with fail
      go_ret;exact ⟨HF.o 5 (by unfold zaz;rw [if_neg (show ¬ (32<lt.length\/32<ln.length\/32<ls.length) by omega),HP.o];simp),a2.o⟩
     ·have HP:=zjy hp;clear hp
      go_wp2_with fail
      refine (pairs_any zau _ ls _ (H3.o.below a2.o) (by omega)).mono ?_;rintro e w3 ⟨rfl,a4⟩;clear p0 p1 p2;have X3:=zab a4 z2 a8.o;obtain ⟨p0,p1,p2⟩:=zan X3;have z3:=zaa X3;have a1:=xhh a2 a4;have HX3:=zjy X3;clear X3 a4 a8 a2;cases hq:zcg ls
      ·have HQ:=zjy hq;clear hq
       go_wp2_with fail
       go_ret;exact ⟨HF.o 5 (by unfold zaz;rw [if_neg (show ¬ (32<lt.length\/32<ln.length\/32<ls.length) by omega),HQ.o];simp),a1.o⟩
      ·have HQ:=zjy hq;clear hq
       go_wp2_with fail
       have eg:∀ args w,(callFunc 134 args).run prog w = .ok (.enter 134 args) w:=enters_of func134 (by kernel_rfl) rfl
       refine (contP_any (fun x=>zhk lt x.2) 134 #[.pointer (some ⟨w.heap.size,0,none⟩)] eg zau _ ln _ (H2.o.below a1.o) (by omega) (pred_check _ _ _ lt w.heap.size _ (H1.o.below a1.o) (by omega) z3 p0 p1 p2)).mono ?_
       rintro e w4 ⟨rfl,a7⟩;have b0:=xhh a1 a7;clear a7 eg p0 p1 p2;cases hr:ln.any fun x=>zhk lt x.2
       ·have HR:=zjy hr;clear hr
        go_wp2_with fail
        go_ret;exact ⟨HF.o 0 (by unfold zaz;rw [if_neg (show ¬ (32<lt.length\/32<ln.length\/32<ls.length) by omega),if_pos ⟨HT.o,HP.o,HQ.o⟩,if_neg (by rw [HR.o];simp)]),b0.o⟩
       ·have HR:=zjy hr;clear hr
        go_wp2_with fail
        go_ret;exact ⟨HF.o 5 (by unfold zaz;rw [if_neg (show ¬ (32<lt.length\/32<ln.length\/32<ls.length) by omega),if_pos ⟨HT.o,HP.o,HQ.o⟩,if_pos HR.o]),b0.o⟩
end
section
open Go.RowKit
attribute [local go_sem] zag zaj
def zbe:List P2->List UInt8->List UInt8
 | [],s=>s
 | p :: L,s=>if p.1 == s then p.2 else zbe L s
theorem canon_from (s:List UInt8):∀ (L:List P2) (i:Nat),(Lib.idxByFrom (fun _ (y:P2)=>y.1 == s) default L i<0/\zbe L s=s)\/(∃ k,k<L.length/\Lib.idxByFrom (fun _ (y:P2)=>y.1 == s) default L i=((i+k:Nat):Int)/\(L.getD k default).2=zbe L s):=by
 intro L;induction L with
 | nil=>intro i;left;simp [Lib.idxByFrom,zbe]
 | cons p L ih =>
  intro i;cases h:p.1 == s
  ·simp only [Lib.idxByFrom,zbe,h]
   rcases ih (i+1) with ⟨h1,h2⟩ | ⟨k,h1,h2,h3⟩
   ·left;exact ⟨by simpa using h1,by simpa using h2⟩
   ·right
    refine ⟨k+1,by simp;omega,?_,by simpa using h3⟩;simp only [Bool.false_eq_true,if_false];rw [h2];congr 1;omega
  ·right
   exact ⟨0,by simp,by simp [Lib.idxByFrom,h],by simp [zbe,h]⟩
theorem zgv (L:List P2) (s:List UInt8):(zjn L s<0/\zbe L s=s)\/(∃ k,k<L.length/\zjn L s=(k:Int)/\(L.getD k default).2=zbe L s):=by
 have:=canon_from s L 0;simpa [zjn,Lib.idxBy] using this
theorem canonical_any (S:Nat->Prop) (vt vn vs:Value) (L:List P2) (s:List UInt8) (w:World) (h:Vec w S 2 encP vn L) (hn:L.length<=1000000) :
  Calls prog 231 #[.agg #[vt,vn,vs],zak s] w fun e w'=>e = .returned (zak (zbe L s))/\Below w.heap.size w w':=by
 obtain ⟨an,cn,rfl⟩:=h.slice;have HV:=zjy h;clear h;have a3:=zgv L s;go_enter func231,ntmps231
 go_wp2_with fail
 refine (find_any S _ L s _ (HV.o.below ((Below.refl _ _).alloc xnl _)) hn).mono ?_;rintro e w1 ⟨rfl,a1⟩;have X1:w1.heap[w.heap.size]?=some (.cells #[vt,.slice an L.length cn,vs] 31 (0,0)):=zab a1 (by simp) (zac rfl);obtain ⟨p0,p1,p2⟩:=zan X1;have a2:=zjy (xbt a1);clear X1 a1
 rcases a3 with ⟨h1,h2⟩ | ⟨k,hk,h1,h2⟩
 ·have H2:=zjy h2;clear h2
  generalize zjn L s=n at *;go_wp2_with fail
  go_ret;exact ⟨by rw [H2.o];rfl,a2.o⟩
 ·rw [h1]
  obtain ⟨b,off,rfl,_,hb,hc⟩:=zco HV.o (by omega);have a0:=hc k hk 1 _ rfl;rw [h2] at a0;have c1:w1.cell? ⟨b,off+k*2+1,none⟩=some (zak (zbe L s)):=(a2.o.cell (p:=⟨b,off+k*2+1,none⟩) hb).trans a0;clear hc a0 h1 h2;have hk':(k:Int)<(L.length:Int):=by omega
  obtain ⟨y,hy⟩:=xex (zbe L s);rw [hy] at c1;have HY:=zjy hy;clear hy;go_wp2_with fail
  go_ret;exact ⟨by rw [HY.o];rfl,a2.o⟩
theorem zdt:(prog.info? 9).map (fun i=>(i.zero,i.size,i.bytes))=some (some (.string ⟨#[]⟩),1,16):=by kernel_rfl
def zcz (r:RulesL) (t:List UInt8):List (List UInt8):=if (za7 t).isEmpty || zhk r.titles (za7 t) then [] else [zbe r.nicks (za7 t)]
def za9 (r:RulesL) (L:List (List UInt8)):List (List UInt8):=L.flatMap (zcz r)
def zdd (r:RulesL) (l:List UInt8):List UInt8 × Int :=
 if zaz r=0 then (if zdi l=true then (if 6<(za9 r (zcu (zbx l))).length\/64<(za2 (za9 r (zcu (zbx l)))).length then ([],1) else (za2 (za9 r (zcu (zbx l))),0)) else ([],3)) else ([],zaz r)
def zdx (p:List UInt8 × Int):Value:=.tuple #[zak p.1,.int .i64 p.2]
theorem zds (r:RulesL) (L:List (List UInt8)) (t:List UInt8):za9 r (L++[t])=za9 r L++zcz r t:=by simp [za9]
theorem normTok_len (r:RulesL) (t:List UInt8):(zcz r t).length<=1:=by unfold zcz;split <;> simp
theorem zgc (r:RulesL) (L:List (List UInt8)):(za9 r L).length<=L.length:=by
 induction L with
 | nil=>simp [za9]
 | cons t L ih =>
  have:=normTok_len r t;simp only [za9,List.flatMap_cons,List.length_append,List.length_cons] at *;omega
theorem ze1 {r:RulesL} (h:zaz r=0):(r.titles.length<=32/\r.nicks.length<=32/\r.streets.length<=32)/\zfh r.titles=true/\zcg r.nicks=true/\zcg r.streets=true/\(r.nicks.any fun x=>zhk r.titles x.2)=false:=by
 unfold zaz at h;split at h
 ·omega
 ·split at h
  ·rename_i h1 h2
   split at h
   ·omega
   ·rename_i h3
    exact ⟨by omega,h2.1,h2.2.1,h2.2.2,by simpa using h3⟩
  ·omega
theorem pairs_at {L:List P2} (h:zcg L=true) (j:Nat) (hj:j<L.length):zdy L j=true:=List.all_eq_true.1 h j (List.mem_range.2 hj)
theorem token_len {t:List UInt8} (h:zb8 t=true):t.length<=64:=by
 unfold zb8 at h;cases h1:t.isEmpty <;> simp [h1] at h
 exact h.1
theorem canon_len {L:List P2} (h:zcg L=true) (s:List UInt8) (hs:s.length<=64):(zbe L s).length<=64:=by
 rcases zgv L s with ⟨_,h2⟩ | ⟨k,hk,_,h3⟩
 ·rw [h2];exact hs
 ·rw [<- h3]
  have:=pairs_at h k hk;unfold zdy at this;simp only [Bool.and_eq_true] at this;exact token_len this.1.1.2
theorem join_le {m:Nat}:∀ (L:List (List UInt8)),(∀ t∈L,t.length<=m)->(za2 L).length<=L.length*(m+1):=by
 intro L;induction L with
 | nil=>intro _;simp [za2]
 | cons t L ih =>
  intro h;have h1:=ih fun t ht=>h t (List.mem_cons_of_mem _ ht)
  have h2:=h t List.mem_cons_self;by_cases hL:L=[]
  ·subst hL;simp [za2];omega
  ·rw [zbj _ _ hL]
   simp only [List.length_append,List.length_cons,List.length_nil,Nat.succ_mul] at *;omega
theorem toks_le (l:List UInt8):∀ p,∀ t∈zbw p l,t.length<=p.length+l.length:=by
 induction l with
 | nil =>
  intro p t ht;simp only [zbw] at ht;split at ht
  ·simp at ht
  ·simp at ht;subst ht;simp
 | cons c l ih =>
  intro p t ht;by_cases hc:c=32
  ·subst hc
   by_cases hp:p=[]
   ·subst hp
    rw [zbm] at ht;have:=ih [] t ht;simp at *;omega
   ·rw [zbz _ _ hp] at ht
    rcases List.mem_cons.1 ht with rfl | ht
    ·simp
    ·have:=ih [] t ht
     simp at *;omega
  ·rw [zb0 _ _ _ hc] at ht
   have:=ih _ t ht;simp at *;omega
theorem nameToks_le {r:RulesL} (h:zcg r.nicks=true) {L:List (List UInt8)} (hL:∀ t∈L,t.length<=64):∀ t∈za9 r L,t.length<=64:=by
 intro t ht;obtain ⟨x,hx,ht⟩:=List.mem_flatMap.1 ht;unfold zcz at ht;split at ht
 ·simp at ht
 ·simp at ht;subst ht
  exact canon_len h _ (Nat.le_trans (zfv x) (hL x hx))
end
section
open Go.RowKit
attribute [local go_sem] zag zaj
theorem join_mem (L:List (List UInt8)):∀ b∈za2 L,b=32\/∃ t∈L,b∈t:=by
 induction L with
 | nil=>intro b hb;simp [za2] at hb
 | cons t L ih =>
  intro b hb;by_cases hL:L=[]
  ·subst hL;exact .inr ⟨t,by simp,by simpa [za2] using hb⟩
  ·rw [zbj _ _ hL] at hb
   rcases List.mem_append.1 hb with hb | hb
   ·rcases List.mem_append.1 hb with hb | hb
    ·exact .inr ⟨t,by simp,hb⟩
    ·simp at hb;exact .inl hb
   ·rcases ih b hb with h | ⟨x,hx,h⟩
    ·exact .inl h
    ·exact .inr ⟨x,List.mem_cons_of_mem _ hx,h⟩
theorem fold_ok (l:List UInt8):∀ b∈zbx l,okB b=true:=by
 intro b hb
 rcases join_mem _ b hb with h | ⟨t,ht,hbt⟩
 ·subst h;rfl
 ·rcases toksA_mem _ [] t ht b hbt with h | h
  ·simp at h
  ·exact (raw_ok l).1 b h.1
theorem zh5 (l:List UInt8):ascii (zbx l):=fun b hb=>okB_lt (fold_ok l b hb)
theorem zgr {l:List UInt8} (h:zdi l=true):l.length<=64:=by
 unfold zdi at h;simp at h;exact h.2
theorem zfu {w w':World} {B e size n:Nat} {v:Value} {xs:List Value} (h:w.ownsRow B e size v n xs) (hb:Below w.heap.size w w'):w'.ownsRow B e size v n xs:=by
 refine ⟨h.1,?_⟩
 rcases h.2 with h0 | ⟨g,cap,cur,hv,hg,hh,rest⟩
 ·exact .inl h0
 ·exact .inr ⟨g,cap,cur,hv,hg,(hb.block g (zaa hh)).trans hh,rest⟩
theorem TL_get {T:List (List UInt8)} (h:∀ t∈T,t.length<=64) (k:Nat) (hk:k<T.length):(T.getD k []).length<=64:=by
 rw [List.getD,List.getElem?_eq_getElem hk];exact h _ (List.getElem_mem hk)
def OwnAt (w4:World) (v:Value) (L:List (List UInt8)) (wr:World):Prop :=
 wr.ownsRow w4.heap.size 9 1 v L.length (L.flatMap za8)/\Below w4.heap.size w4 wr
theorem OwnAt.below {w4 wr w':World} {v:Value} {L:List (List UInt8)} (h:OwnAt w4 v L wr) (hb:Below wr.heap.size wr w'):OwnAt w4 v L w' :=
 ⟨zfu h.1 hb,h.2.trans (hb.mono h.2.size)⟩
theorem OwnAt.start (w4:World):OwnAt w4 (.slice none 0 0) [] w4:=⟨⟨rfl,.inl ⟨rfl,rfl⟩⟩,Below.refl _ _⟩
theorem zd4 (L:List (List UInt8)) (y:List UInt8):(L++[y]).flatMap za8=L.flatMap za8++[zak y]:=by simp
theorem norm_yes (S:Nat->Prop) (vt vn vs:Value) (r:RulesL) (s:ByteArray) (w:World) (h:RulesAt w S vt vn vs r) (hc:zaz r=0) (hv:zdi s.data.toList=true) :
  Calls prog 205 #[.agg #[vt,vn,vs],.string s] w fun e w'=>e = .returned (zdx (zdd r s.data.toList))/\Below w.heap.size w w':=by
 have hs:s.size<=64:=by
  have:=zgr hv;have h2:s.data.toList.length=s.size:=by simp
  omega
 obtain ⟨⟨k1,k2,k3⟩,g1,g2,g3,g4⟩:=ze1 hc;have G2:=zjy g2;have HR:=zjy h.any;have HC:=zjy hc;have HV:=zjy hv;clear h hc hv g1 g2 g3 g4
 have a4:zdd r s.data.toList=(if 6<(za9 r (zcu (zbx s.data.toList))).length\/64<(za2 (za9 r (zcu (zbx s.data.toList)))).length then ([],1) else (za2 (za9 r (zcu (zbx s.data.toList))),0)):=by
  unfold zdd;rw [if_pos HC.o,if_pos HV.o]
 have HF:=zjy a4;clear a4;go_enter func205,ntmps205
 go_wp2_with fail
 refine (zex zau vt vn vs r _ (HR.o.below ((Below.refl _ _).alloc xnl _))).mono ?_;rw [HC.o];rintro e w1 ⟨rfl,b5⟩;have X1:w1.heap[w.heap.size]?=some (.cells #[vt,vn,vs] 31 (0,0)):=zab b5 (by simp) (zac rfl);have c0:=zjy X1;have d5:=zjy (xbt b5);clear X1 b5;go_wp2_with fail
 refine (fold_yes s _ (by omega) HV.o).mono ?_;rintro e w2 ⟨rfl,b4⟩;have b9:=zjy (zab b4 (zaa c0.o) c0.o);have d4:=xhh d5 b4;clear b4 c0 d5;go_wp2_with fail
 have e4:(zbx s.data.toList).length<=64:=by
  have:=zg3 s.data.toList;have h2:s.data.toList.length=s.size:=by simp
  omega
 obtain ⟨fl,a1⟩:=xex (zbx s.data.toList);have a5:ascii fl:=a1 ▸ zh5 _;have HA:=zjy a5;rw [a1] at e4 HF ⊢;clear a5 a1;refine (zgk fl _ HA.o (by omega)).mono ?_;rintro e w4 ⟨A,rfl,hA,ho,b3⟩;have d0:=zjy (zab b3 (zaa b9.o) b9.o);have a3:=xhh d4 b3;have hV:=Vec.owns (S:=zau) (k:=1) (enc:=za8) (fun _=>rfl) ho (fun _ _ _=>trivial)
 have a8:∀ t∈zcu fl,t.length<=64:=fun t ht=>by have:=toks_le fl [] t ht;simp at this;omega
 have d9:(zcu fl).length<=65:=by have:=(zd3 fl []).2.1;unfold zcu;omega
 obtain ⟨T,hT⟩:=xex (zcu fl);rw [hT] at hV a8 d9 HF ⊢;have e7:=zjy hV;have d3:=zjy a8;clear b3 b9 d4 ho hV hT a8 hA;go_wp2_with fail
 go_loopw [9,29] (fun v i wr=>∃ k:Nat,k<=T.length/\i = .int .i64 k/\OwnAt w4 v (za9 r (T.take k)) wr) (fun _ i _=>T.length - (intOf i).toNat)
 case atStart=>exact ⟨0,by omega,rfl,OwnAt.start w4⟩
 case round =>
  obtain ⟨k,hk,rfl,ho⟩:=hrel;by_cases hlt:k<T.length
  ·have hq:decide ((k:Int)<T.length)=true:=by simp;omega
   have hi:(k:Int)<(T.length:Int):=by omega
   obtain ⟨b,off,e1,_,hb,c6⟩:=zb7 e7.o (by omega);cases e1
   have a9:T.take (k+1)=T.take k++[T.getD k []]:=by
    rw [List.take_succ_eq_append_getElem hlt,List.getD,List.getElem?_eq_getElem hlt];rfl
   have d7:(T.getD k []).length<=64:=TL_get d3.o k hlt;have a2:=c6 k hlt;obtain ⟨x,hx⟩:=xex (T.getD k []);rw [hx] at a9 d7 a2
   have c1:wr.cell? ⟨A,k,none⟩=some (zak x):=by
    have:=(ho.2.cell (p:=⟨A,0+k,none⟩) hb).trans a2;simpa using this
   have HT:=zjy a9;have HO:=zjy ho;have b1:=zgc r (T.take k);have b0:(za9 r (T.take k)).length<1099511627776:=by have:=List.length_take_le k T;omega
   clear hx a9 c6 a2 ho b1;go_wp2_with fail
   refine (zir (mkS x) _ (by rw [show (mkS x).size=x.length from zaj x];omega)).mono ?_;rw [show (mkS x).data.toList=x by simp [mkS]];rintro e w5 ⟨rfl,c9⟩;have a6:=zjy (HO.o.below c9);have b7:=zab (a6.o.2) (zaa d0.o) d0.o;clear HO c9;have a0:=zjy (show zcz r x=if (za7 x).isEmpty || zhk r.titles (za7 x) then [] else [zbe r.nicks (za7 x)] from rfl);have d6:=zfv x;obtain ⟨y,hy⟩:=xex (za7 x);rw [hy] at a0 d6 ⊢;clear hy;have b8:=zjy b7;obtain ⟨p0,p1,p2⟩:=zan b7;clear b7;by_cases hye:y=[]
   ·have e1:(y == [])=true:=by simpa using hye
    have e2:y.isEmpty=true:=by simpa using hye
    have HN:=zjy (show zcz r x=[] by rw [a0.o,e2];rfl);clear hye a0;go_wp2_with fail
    go_roundw
    case rel=>exact ⟨k+1,by omega,by go_num,by rw [HT.o,zds,HN.o,List.append_nil];exact a6.o⟩
    case measure=>simp [intOf];omega
   ·have e1:(y == [])=false:=by simpa using hye
    have e2:y.isEmpty=false:=by simpa using hye
    rw [e2,Bool.false_or] at a0;clear hye;go_wp2_with fail
    refine (dropped_any zau vt vn vs r.titles y _ (HR.o.1.below (a3.o.trans (a6.o.2.mono a3.o.size))) (by omega)).mono ?_;rintro e w6 ⟨rfl,b2⟩;have a7:=zjy (a6.o.below b2);have b6:=zab b2 (zaa b8.o) b8.o;clear p0 p1 p2 b8 b2 a6;obtain ⟨p0,p1,p2⟩:=zan b6;have e6:=zjy b6;clear b6;cases hd:zhk r.titles y
    ·have HN:=zjy (show zcz r x=[zbe r.nicks y] by rw [a0.o,hd];rfl)
     clear hd a0;go_wp2_with fail
     refine (canonical_any zau vt vn vs r.nicks y _ (HR.o.2.1.below (a3.o.trans (a7.o.2.mono a3.o.size))) (by omega)).mono ?_;rintro e w7 ⟨rfl,c8⟩;have c4:=zjy (a7.o.below c8);clear p0 p1 p2 e6 c8 a7;obtain ⟨z,hz⟩:=xex (zbe r.nicks y);rw [hz] at HN ⊢;clear hz;have e5:w4.heap.size<=w7.heap.size:=c4.o.2.size;go_wp2_with (at_builtin;refine zay rfl _ _ 28 rfl w4.heap.size 9 1 16 (.string ⟨#[]⟩) underlying28 zdt rfl (by decide) (by decide) _ _ _ rfl c4.o.1 #[zak z] 1 rfl rfl (by simp [Value.oneCell']) b0 e5 ?_;intro v2 w8 e0 d8)
     go_roundw
     case rel=>exact ⟨k+1,by omega,by go_num,by rw [HT.o,zds,HN.o];exact ⟨by rw [List.length_append,zd4];exact e0,d8 _ c4.o.2⟩⟩
     case measure=>simp [intOf];omega
    ·have HN:=zjy (show zcz r x=[] by rw [a0.o,hd];rfl)
     clear hd a0;go_wp2_with fail
     go_roundw
     case rel=>exact ⟨k+1,by omega,by go_num,by rw [HT.o,zds,HN.o,List.append_nil];exact a7.o⟩
     case measure=>simp [intOf];omega
  ·have hq:decide ((k:Int)<T.length)=false:=by simp;omega
   rw [List.take_of_length_le (by omega)] at ho;have c3:=zjy (Vec.owns (S:=zau) (k:=1) (enc:=za8) (fun _=>rfl) ho.1 (fun _ _ _=>trivial))
   have HW:=zjy (a3.o.trans (ho.2.mono a3.o.size));have b1:=zgc r T;have c5:=join_le (za9 r T) (nameToks_le G2.o d3.o);clear ho;obtain ⟨N,hN⟩:=xex (za9 r T);rw [hN] at c3 b1 c5 HF;clear hN
   have e3:(za2 N).length<=1000000:=by
    have:N.length*65<=65*65:=Nat.mul_le_mul_right 65 (by omega);omega
   clear c5;obtain ⟨av,cv,rfl⟩:=c3.o.slice;go_wp2_with fail
   refine (join_any zau _ N _ c3.o (by omega) (by omega)).mono ?_;rintro e w9 ⟨rfl,c7⟩;have c2:=xhh HW c7;clear c7;obtain ⟨J,hJ⟩:=xex (za2 N);rw [hJ] at HF e3 ⊢;clear hJ;by_cases g1:6<N.length
   ·have d1:decide ((6:Int)<N.length)=true:=by simp;omega
    rw [if_pos (.inl g1)] at HF;go_wp2_with fail
    go_ret2;exact ⟨by rw [HF.o];rfl,c2.o⟩
   ·have d1:decide ((6:Int)<N.length)=false:=by simp;omega
    by_cases g2:64<J.length
    ·have d2:decide ((64:Int)<J.length)=true:=by simp;omega
     rw [if_pos (.inr g2)] at HF;go_wp2_with fail
     go_ret2;exact ⟨by rw [HF.o];rfl,c2.o⟩
    ·have d2:decide ((64:Int)<J.length)=false:=by simp;omega
     rw [if_neg (by omega)] at HF;go_wp2_with fail
     go_ret2;exact ⟨by rw [HF.o];rfl,c2.o⟩
theorem norm_no (S:Nat->Prop) (vt vn vs:Value) (r:RulesL) (s:ByteArray) (w:World) (h:RulesAt w S vt vn vs r) (hs:s.size<=9223372036854775000) (hc:zaz r=0) (hv:zdi s.data.toList=false) :
  Calls prog 205 #[.agg #[vt,vn,vs],.string s] w fun e w'=>e = .returned (zdx (zdd r s.data.toList))/\Below w.heap.size w w':=by
 have HR:=zjy h.any;have HC:=zjy hc;have HV:=zjy hv;clear h hc hv;have HF:=zjy (show zdd r s.data.toList=([],3) by unfold zdd;rw [if_pos HC.o,if_neg (by rw [HV.o];simp)]);go_enter func205,ntmps205
 go_wp2_with fail
 refine (zex zau vt vn vs r _ (HR.o.below ((Below.refl _ _).alloc xnl _))).mono ?_;rw [HC.o];rintro e w1 ⟨rfl,a1⟩;have a2:=zjy (xbt a1);clear a1;go_wp2_with fail
 refine (fold_no s _ hs HV.o).mono ?_;rintro e w2 ⟨rfl,a0⟩;have a3:=xhh a2 a0;clear a0 a2;go_wp2_with fail
 go_ret2;exact ⟨by rw [HF.o];rfl,a3.o⟩
theorem norm_bad (S:Nat->Prop) (vt vn vs:Value) (r:RulesL) (s:ByteArray) (w:World) (h:RulesAt w S vt vn vs r) (hc:zaz r≠0) :
  Calls prog 205 #[.agg #[vt,vn,vs],.string s] w fun e w'=>e = .returned (zdx (zdd r s.data.toList))/\Below w.heap.size w w':=by
 have HR:=zjy h.any;have HF:=zjy (show zdd r s.data.toList=([],zaz r) by unfold zdd;rw [if_neg hc]);have a2:(zaz r != 0)=true:=by simpa using hc
 clear h hc;go_enter func205,ntmps205
 go_wp2_with fail
 refine (zex zau vt vn vs r _ (HR.o.below ((Below.refl _ _).alloc xnl _))).mono ?_;obtain ⟨c,a0⟩:=xex (zaz r);rw [a0] at a2 HF ⊢;clear a0;rintro e w1 ⟨rfl,a1⟩;have a3:=zjy (xbt a1);clear a1;go_wp2_with fail
 go_ret2;exact ⟨by rw [HF.o];rfl,a3.o⟩
theorem norm_any (S:Nat->Prop) (vt vn vs:Value) (r:RulesL) (s:ByteArray) (w:World) (h:RulesAt w S vt vn vs r) (hs:s.size<=9223372036854775000) :
  Calls prog 205 #[.agg #[vt,vn,vs],.string s] w fun e w'=>e = .returned (zdx (zdd r s.data.toList))/\Below w.heap.size w w':=by
 by_cases hc:zaz r=0
 ·cases hv:zdi s.data.toList with
  | true=>exact norm_yes S vt vn vs r s w h hc hv
  | false=>exact norm_no S vt vn vs r s w h hs hc hv
 ·exact norm_bad S vt vn vs r s w h hc
def zep (p:List UInt8 × Int) (l:List UInt8):Bool:=bif p.2 == 0 then p.1 == l else false
theorem normal_any (S:Nat->Prop) (vt vn vs:Value) (r:RulesL) (s:ByteArray) (w:World) (h:RulesAt w S vt vn vs r) (hs:s.size<=9223372036854775000) :
  Calls prog 206 #[.agg #[vt,vn,vs],.string s] w fun e w'=>e = .returned (.bool (zep (zdd r s.data.toList) s.data.toList))/\Below w.heap.size w w':=by
 have HR:=zjy h.any;clear h;have HS:=zjy (Lib.toList_data s);go_enter func206,ntmps206
 go_wp2_with fail
 refine (norm_any zau vt vn vs r s _ (HR.o.below ((Below.refl _ _).alloc xnl _)) hs).mono ?_;obtain ⟨p,hp⟩:=xex (zdd r s.data.toList);rw [hp];have HP:=zjy hp;clear hp;obtain ⟨pl,pe⟩:=p;unfold zdx;rintro e w1 ⟨rfl,a0⟩;have a1:=zjy (xbt a0);clear a0;cases he:(pe == 0)
 all_goals
  go_wp2_with fail
  go_ret;refine ⟨zax ?_,a1.o⟩;rw [HP.o];simp [zep,he,HS.o]
end
section
open Go.RowKit
attribute [local go_sem] zag zaj
def zdc:List UInt8->Bool
 | c :: _=>isDgt c
 | []=>false
@[local go_sem] theorem get_zero (c:UInt8) (l:List UInt8) (h:0<(⟨(c :: l).toArray⟩:ByteArray).size):(⟨(c :: l).toArray⟩:ByteArray)[0]'h=c:=rfl
theorem ziq (l:List UInt8) (w:World) :
  Calls prog 239 #[zak l] w fun e w'=>e = .returned (.bool (zdc l))/\w=w':=by
 cases l with
 | nil =>
  go_enter func239,ntmps239
  go_wp2
  go_ret;exact ⟨rfl,rfl⟩
 | cons c l =>
  have HD:=zjy (ze0 c);go_enter func239,ntmps239
  go_wp2
  all_goals
   go_ret;exact ⟨zax (by rw [show zdc (c :: l)=isDgt c from rfl,HD.o];simp;try omega),rfl⟩
def zbk (l:List UInt8):List UInt8:=if zdc (l.dropWhile (· == 48))=true then l.dropWhile (· == 48) else 48 :: l.dropWhile (· == 48)
@[local go_sem] theorem nought_append (b:List UInt8):(⟨#[48]⟩:ByteArray)++⟨b.toArray⟩=⟨(48 :: b).toArray⟩:=by
 apply ByteArray.ext;simp
theorem zjq (p:UInt8->Bool) (l:List UInt8):(l.dropWhile p).length<=l.length:=by
 induction l with
 | nil=>simp
 | cons c l ih=>rw [List.dropWhile_cons];split <;> simp;omega
theorem short_len (l:List UInt8):(zbk l).length<=l.length+1:=by
 have:=zjq (· == 48) l;unfold zbk;split <;> simp <;> omega
theorem short_any (l:List UInt8) (w:World) (hl:l.length<=1000000) :
  Calls prog 240 #[zak l] w fun e w'=>e = .returned (zak (zbk l))/\w=w':=by
 have ht:=Tryz.strings_TrimLeft_one (mkS l) 48 (by decide) w;rw [show (mkS l).data.toList=l by simp [mkS]] at ht;have HT:=zjy ht;clear ht;have a0:zbk l=if zdc (Lib.trimLeftB l 48)=true then Lib.trimLeftB l 48 else 48 :: Lib.trimLeftB l 48:=rfl
 have a1:(Lib.trimLeftB l 48).length<=l.length:=zjq _ l;obtain ⟨r,hr⟩:=xex (Lib.trimLeftB l 48);rw [hr] at HT a0 a1;have HF:=zjy a0;clear a0 hr;go_enter func240,ntmps240
 go_wp2_with fail
 refine HT.o.mono ?_;rintro e w1 ⟨rfl,hw⟩;subst hw;go_wp2_with fail
 refine (ziq r _).mono ?_;rintro e w1 ⟨rfl,rfl⟩;cases hn:zdc r
 ·rw [if_neg (by rw [hn];simp)] at HF
  have hsz:¬ (9223372036854775807:Int)<((r.length+1:Nat):Int):=by omega
  go_wp2_with fail
  go_ret;exact ⟨by rw [HF.o];rfl,rfl⟩
 ·rw [if_pos hn] at HF
  go_wp2_with fail
  go_ret;exact ⟨by rw [HF.o];rfl,rfl⟩
end
section
open Go.RowKit
attribute [local go_sem] zag zaj
theorem zc5 {P:Program} {w:World} {ops:Array Oper} {rest:List Oper} {o:Oper} {a:Act} {Q:Exit->Act->World->Prop} (hgd:o.guard=none) (s x:Operand) (t:TypeId)
  (ho:o.op = .call { callee:=.builtin .append,args:=#[s,x],argTypes:=#[t,t] })
  (base:Nat) (e:TypeId) (size bytes:Nat) (z:Value) (ht:P.underlying t=some (.slice e)) (hinfo:(P.info? e).map (fun i=>(i.zero,i.size,i.bytes))=some (some z,size,bytes))
  (hzs:z.cells.size=size) (hsz:0<size) (hby:bytes<=128)
  (v:Value) (n:Nat) (xs:List Value) (hs:a.eval s=v) (hown:w.ownsRow base e size v n xs)
  (cs:Array Value) (c:Nat) (hx:a.eval x = .slice (some ⟨w.heap.size,0,none⟩) 1 c) (hcs:cs.size=size) (h1:∀ u∈cs.toList,u.oneCell'=true)
  (hn:n<1099511627776) (hbase:base<=w.heap.size)
  (h:∀ v' w',w'.ownsRow base e size v' (n+1) (xs++cs.toList)->(w.alloc (.cells cs e)).grownBy w' v.ownBlock->(v'.ownBlock=v.ownBlock\/v'.ownBlock=some (w.heap.size+1))->(∀ W,Below base W w->Below base W w')->wpList P ops Q rest (a.put o.dst v') w') :
  wpList P ops Q (o :: rest) a (w.alloc (.cells cs e)):=by
 obtain ⟨i,hi,hz,h2,h3⟩:=info_parts hinfo;refine wpList_append_own_at _ hgd s x t ho base e i z size bytes ht hi hz h2 h3 hzs hsz v n xs hs (hown.alloc _) ⟨w.heap.size,0,none⟩ 1 c cs.toList hx (by simp [hcs]) ?_ h1 (zdg (by omega)) ?_ (by simp;omega) ?_
 ·intro j u hu
  have:(⟨w.heap.size,0,none⟩:Addr).add j=⟨w.heap.size,j,none⟩:=by unfold Addr.add;split <;> simp_all
  rw [this,cell_of_row _ _ _ _ _ _ (heap_alloc_new w _)];simpa using hu
 ·exact Nat.le_trans (Nat.mul_le_mul (Nat.le_of_lt_succ (by omega:n+1<1099511627776+1)) hby) (by decide)
 ·intro v' w' a0 hg _ a1
  refine h v' w' a0 hg (by simpa using a1) fun W hW=>(hW.alloc hbase _).grown hg (by simp;omega) ?_
  intro k hk;exact (hown.lt k hk).1
def TwoAt (w:World) (u v:Value) (Y N:List (List UInt8)) (wr:World):Prop :=
 wr.ownsRow w.heap.size 9 1 u Y.length (Y.flatMap za8)/\wr.ownsRow w.heap.size 9 1 v N.length (N.flatMap za8)/\(∀ g,u.ownBlock=some g->v.ownBlock≠some g)/\Below w.heap.size w wr
theorem TwoAt.below {w wr w':World} {u v:Value} {Y N:List (List UInt8)} (h:TwoAt w u v Y N wr) (hb:Below wr.heap.size wr w'):TwoAt w u v Y N w' :=
 ⟨zfu h.1 hb,zfu h.2.1 hb,h.2.2.1,h.2.2.2.trans (hb.mono h.2.2.2.size)⟩
theorem TwoAt.swap {w wr:World} {u v:Value} {Y N:List (List UInt8)} (h:TwoAt w u v Y N wr):TwoAt w v u N Y wr :=
 ⟨h.2.1,h.1,fun g hv hu=>h.2.2.1 g hu hv,h.2.2.2⟩
theorem own_kept {w w':World} {B e size n:Nat} {v:Value} {xs:List Value} {row:Option Nat} (h:w.ownsRow B e size v n xs) (hg:w.grownBy w' row) (hr:∀ g,v.ownBlock=some g->row≠some g):w'.ownsRow B e size v n xs:=by
 refine ⟨h.1,?_⟩
 rcases h.2 with h0 | ⟨g,cap,cur,hv,hg',hh,rest⟩
 ·exact .inl h0
 ·exact .inr ⟨g,cap,cur,hv,hg',(hg.block g (zaa hh) (fun e=>hr g (by rw [hv];rfl) e.symm)).trans hh,rest⟩
theorem TwoAt.put {w wr w2:World} {u v u2:Value} {Y N:List (List UInt8)} {y:List UInt8} (h:TwoAt w u v Y N wr) (ho:w2.ownsRow w.heap.size 9 1 u2 (Y.length+1) (Y.flatMap za8++[zak y]))
  (hg:(wr.alloc (.cells #[zak y] 9)).grownBy w2 u.ownBlock) (hat:u2.ownBlock=u.ownBlock\/u2.ownBlock=some (wr.heap.size+1)) (hw:∀ W,Below w.heap.size W wr->Below w.heap.size W w2):TwoAt w u2 v (Y++[y]) N w2:=by
 obtain ⟨h1,h2,h3,h4⟩:=h
 refine ⟨by rw [List.length_append,zd4];exact ho,own_kept (h2.alloc _) hg (fun g hv hu=>h3 g hu hv),fun g hu hv=>?_,hw _ h4⟩
 rcases hat with hat | hat
 ·exact h3 g (by rw [<- hat];exact hu) hv
 ·rw [hat] at hu
  have:=(h2.lt g hv).2;injection hu with hu
  omega
theorem TwoAt.start (w:World):TwoAt w (.slice none 0 0) (.slice none 0 0) [] [] w:=⟨⟨rfl,.inl ⟨rfl,rfl⟩⟩,⟨rfl,.inl ⟨rfl,rfl⟩⟩,(fun g h=>by simp [Value.ownBlock] at h),Below.refl _ _⟩
def PartPost (L:List (List UInt8)) (w:World) (e:Ending) (w':World):Prop:=∃ u v,e = .returned (.tuple #[u,v])/\TwoAt w u v (L.filter zdc) (L.filter fun x=>!zdc x) w'
theorem zeq {p:List UInt8->Bool} (L:List (List UInt8)) (x:List UInt8) (h:p x=true):(L++[x]).filter p=L.filter p++[x]:=by simp [h]
theorem ze3 {p:List UInt8->Bool} (L:List (List UInt8)) (x:List UInt8) (h:p x=false):(L++[x]).filter p=L.filter p:=by simp [h]
theorem zhv (T:List (List UInt8)) (k:Nat) (h:k<T.length):T.take (k+1)=T.take k++[T.getD k []]:=by
 rw [List.take_succ_eq_append_getElem h,List.getD,List.getElem?_eq_getElem h];rfl
theorem part_any (S:Nat->Prop) (v:Value) (L:List (List UInt8)) (w:World) (h:Vec w S 1 za8 v L) (hn:L.length<=1000000) :
  Calls prog 241 #[v,.func (.func 239) #[] #[]] w (PartPost L w):=by
 obtain ⟨a,cap,rfl⟩:=h.slice;have HV:=zjy h;clear h;go_enter func241,ntmps241
 go_wp2_with fail
 go_loopw [4,5,10] (fun y n i wr=>∃ k:Nat,k<=L.length/\i = .int .i64 k/\TwoAt w y n ((L.take k).filter zdc) ((L.take k).filter fun x=>!zdc x) wr) (fun _ _ i _=>L.length - (intOf i).toNat)
 case atStart=>exact ⟨0,by omega,rfl,TwoAt.start w⟩
 case round =>
  obtain ⟨k,hk,rfl,ho⟩:=hrel;have HO:=zjy ho;clear ho;by_cases hlt:k<L.length
  ·have hq:decide ((k:Int)<L.length)=true:=by simp;omega
   have hi:(k:Int)<(L.length:Int):=by omega
   obtain ⟨b,off,rfl,_,hb,a6⟩:=zb7 HV.o (by omega);have a3:=zhv L k hlt;have a0:=a6 k hlt;obtain ⟨x,hx⟩:=xex (L.getD k []);rw [hx] at a3 a0;have c1:wr.cell? ⟨b,off+k,none⟩=some (zak x):=(HO.o.2.2.2.cell (p:=⟨b,off+k,none⟩) hb).trans a0;have HT:=zjy a3;have l1:((L.take k).filter zdc).length<1099511627776:=by have:=List.length_filter_le zdc (L.take k);have:=List.length_take_le k L;omega
   have l2:((L.take k).filter fun x=>!zdc x).length<1099511627776:=by have:=List.length_filter_le (fun x=>!zdc x) (L.take k);have:=List.length_take_le k L;omega
   have a7:w.heap.size<=wr.heap.size:=HO.o.2.2.2.size;clear hx a3 a6 a0;go_wp2_with fail
   refine (ziq x _).mono ?_;rintro e w1 ⟨rfl,rfl⟩;cases hd:zdc x
   ·have F1:=zjy (ze3 (p:=zdc) (L.take k) x hd)
    have F2:=zjy (zeq (p:=fun x=>!zdc x) (L.take k) x (by simp [hd]))
    clear hd;go_wp2_with (at_builtin;refine zc5 rfl _ _ 28 rfl w.heap.size 9 1 16 (.string ⟨#[]⟩) underlying28 zdt rfl (by decide) (by decide) _ _ _ rfl HO.o.2.1 #[zak x] 1 rfl rfl (by simp [Value.oneCell']) l2 a7 ?_;intro v2 w8 a4 a5 a1 a2)
    go_roundw
    case rel=>exact ⟨k+1,by omega,by go_num,by rw [HT.o,F1.o,F2.o];exact (HO.o.swap.put a4 a5 a1 a2).swap⟩
    case measure=>simp [intOf];omega
   ·have F1:=zjy (zeq (p:=zdc) (L.take k) x hd)
    have F2:=zjy (ze3 (p:=fun x=>!zdc x) (L.take k) x (by simp [hd]))
    clear hd;go_wp2_with (at_builtin;refine zc5 rfl _ _ 28 rfl w.heap.size 9 1 16 (.string ⟨#[]⟩) underlying28 zdt rfl (by decide) (by decide) _ _ _ rfl HO.o.1 #[zak x] 1 rfl rfl (by simp [Value.oneCell']) l1 a7 ?_;intro v2 w8 a4 a5 a1 a2)
    go_roundw
    case rel=>exact ⟨k+1,by omega,by go_num,by rw [HT.o,F1.o,F2.o];exact HO.o.put a4 a5 a1 a2⟩
    case measure=>simp [intOf];omega
  ·have hq:decide ((k:Int)<L.length)=false:=by simp;omega
   rw [List.take_of_length_le (by omega)] at HO;go_wp2_with fail
   go_ret2;exact ⟨_,_,rfl,HO.o⟩
end
section
open Go.RowKit
attribute [local go_sem] zag zaj
theorem idxP_any (p:P2->Bool) (g:Nat) (lb:Array Value) (eg:∀ args w,(callFunc g args).run prog w = .ok (.enter g args) w) (S:Nat->Prop) (v:Value) (L:List P2) (w:World) (h:Vec w S 2 encP v L) (hn:L.length<=1000000) (hp:PredBelow prog g lb (fun x=>.agg (encP x).toArray) p w) :
  Calls prog 178 #[v,.func (.func g) #[] lb] w fun e w'=>e = .returned (.int .i64 (Lib.idxBy (fun _ (y:P2)=>p y) L default))/\Below w.heap.size w w':=by
 obtain ⟨a,a1,rfl,a2,h0⟩:=h;by_cases hz:L=[]
 ·subst hz
  exact (idxP_nil a a1 _ w).mono fun e w' ⟨he,hw⟩=>⟨he,by rw [<- hw];exact Below.refl _ _⟩
 ·obtain ⟨b,off,rfl,_,hb,hc⟩:=h0 (List.length_pos_iff.2 hz)
  have a0:=AnyQ.slices_IndexFunc Tryz.laysIP 2 Tryz.isAgg122 Tryz.sizeOf122 encP (fun _=>rfl) p g lb eg b off L.length a1 L w hp xnl (by omega) hb (fun j hj i u hi=>by
    have e:L[j]?=some L[j]!:=by rw [List.getElem?_eq_getElem hj,getElem!_pos L j hj]
    exact hc j _ e i u hi)
  rw [List.take_of_length_le xnl] at a0;exact a0
theorem pred_addr (s:List UInt8) (B:Nat) (w:World) (hB:B<w.heap.size) (hcell:w.cell? ⟨B,0,none⟩=some (zak s)) :
  PredBelow prog 238 #[.pointer (some ⟨B,0,none⟩)] (fun x=>.agg (encP x).toArray) (fun x=>x.1 == s) w:=fun W x hb=>by
 have hc:W.cell? ⟨B,0,none⟩=some (zak s):=(hb.cell (p:=⟨B,0,none⟩) hB).trans hcell;have hBW:B<W.heap.size:=Nat.lt_of_lt_of_le hB hb.size;have hne:B≠W.heap.size:=by omega
 have a0:=zjy hb;clear hb hcell;show Calls prog 238 #[.agg #[zak x.1,zak x.2],.pointer (some ⟨B,0,none⟩)] W _;go_enter func238,ntmps238
 go_wp2
 go_ret;exact ⟨rfl,a0.o.alloc a0.o.size _⟩
def RowB (w:World) (A:Nat) (L:List (List UInt8)):Prop:=w.heap[A]?=some (.cells (L.flatMap za8).toArray 9 (0,0))
theorem own_block {w:World} {B A n:Nat} {L:List (List UInt8)} (h:w.ownsRow B 9 1 (.slice (some ⟨A,0,none⟩) n n) n (L.flatMap za8)):B<=A/\RowB w A L:=by
 rcases h.2 with ⟨h0,_⟩ | ⟨g,cap,cur,hv,hg,hh,hn,hc,hsz,ht⟩
 ·cases h0
 ·cases hv
  refine ⟨hg,?_⟩;rw [List.take_of_length_le (by simp [hsz])] at ht;unfold RowB;rw [hh,<- ht]
theorem flat_len1 (L:List (List UInt8)):(L.flatMap za8).length=L.length:=by rw [zd8 (k:=1) (fun _=>rfl)];omega
theorem flat_get1 (L:List (List UInt8)) (j:Nat) (hj:j<L.length):(L.flatMap za8)[j]?=some (zak (L.getD j [])):=by
 have:=zgf (k:=1) (enc:=za8) (fun _=>rfl) L j L[j] (List.getElem?_eq_getElem hj) 0 (by omega)
 rw [List.getD,List.getElem?_eq_getElem hj];simpa using this
theorem RowB.cell {w:World} {A:Nat} {L:List (List UInt8)} (h:RowB w A L) (j:Nat) (hj:j<L.length):w.cell? ⟨A,j,none⟩=some (zak (L.getD j [])):=by
 rw [cell_of_row _ _ _ _ _ _ h,List.getElem?_toArray];exact flat_get1 L j hj
theorem RowB.vec {w:World} {A:Nat} {L:List (List UInt8)} (h:RowB w A L) (cap:Nat) (hc:L.length<=cap):Vec w zau 1 za8 (.slice (some ⟨A,0,none⟩) L.length cap) L :=
 ⟨_,cap,rfl,hc,fun _=>⟨A,0,rfl,trivial,zaa h,fun j x hj i u hu=>by
  have hj':j<L.length:=(List.getElem?_eq_some_iff.1 hj).1
  have hi:i=0:=by
   cases i with
   | zero=>rfl
   | succ i=>simp [za8] at hu
  subst hi;have:=h.cell j hj';rw [List.getD,hj] at this;simp [za8] at hu;subst hu
  simpa using this⟩⟩
theorem flat_set (L:List (List UInt8)) (k:Nat) (y:List UInt8):(L.set k y).flatMap za8=(L.flatMap za8).set k (zak y):=by
 induction L generalizing k with
 | nil=>rfl
 | cons x L ih =>
  cases k with
  | zero=>rfl
  | succ k=>rw [List.set_cons_succ,List.flatMap_cons,List.flatMap_cons,ih];rfl
theorem RowB.set {w:World} {A:Nat} {L:List (List UInt8)} (h:RowB w A L) (k:Nat) (y:List UInt8):RowB (w.setCell ⟨A,k,none⟩ (zak y)) A (L.set k y):=by
 have:=zad (i:=k) (v:=zak y) h;unfold RowB;rw [this,flat_set];simp
def za3 (r:RulesL) (x:List UInt8):List UInt8:=if zdc x=true then zbk x else zbe r.streets x
def midL (f:List UInt8->List UInt8) (T:List (List UInt8)) (k:Nat):List (List UInt8):=(T.take k).map f++T.drop k
theorem mid_len (f:List UInt8->List UInt8) (T:List (List UInt8)) (k:Nat) (hk:k<=T.length):(midL f T k).length=T.length:=by
 unfold midL;simp;omega
theorem mid_get (f:List UInt8->List UInt8) (T:List (List UInt8)) (k:Nat) (hk:k<T.length):(midL f T k).getD k []=T.getD k []:=by
 unfold midL;rw [List.getD,List.getElem?_append_right (by simp;omega),List.getElem?_drop,List.getD];congr 2;simp;omega
theorem mid_set (f:List UInt8->List UInt8) (T:List (List UInt8)) (k:Nat) (hk:k<T.length) (y:List UInt8) (hy:f (T.getD k [])=y):(midL f T k).set k y=midL f T (k+1):=by
 unfold midL
 have e:T.drop k=T.getD k [] :: T.drop (k+1):=by
  rw [List.getD,List.getElem?_eq_getElem hk];exact List.drop_eq_getElem_cons hk
 rw [zhv T k hk,e,List.set_append_right _ _ (by simp;omega)];have:k - ((T.take k).map f).length=0:=by simp;omega
 rw [this,List.set_cons_zero,List.map_append,List.append_assoc,<- hy];rfl
theorem mid_same (f:List UInt8->List UInt8) (T:List (List UInt8)) (k:Nat) (hk:k<T.length) (hy:f (T.getD k [])=T.getD k []):midL f T k=midL f T (k+1):=by
 unfold midL
 have e:T.drop k=T.getD k [] :: T.drop (k+1):=by
  rw [List.getD,List.getElem?_eq_getElem hk];exact List.drop_eq_getElem_cons hk
 rw [zhv T k hk,e,List.map_append,List.append_assoc,List.map_cons,List.map_nil,hy];rfl
end
end Go.Proofs.YtgkaafncfjlooaaGreatDoor
