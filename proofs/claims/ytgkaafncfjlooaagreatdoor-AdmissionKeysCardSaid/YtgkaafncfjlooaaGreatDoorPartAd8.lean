/- Parts of one proof: DeckRecs, EncL, EncN, EncO, EncLaw, NumPlain, EbVars, LinePlain, EncH, BackLaw, AdmLaw, BlkD, BlkE, Sls, AppendV, AdmAll, DeckDict, EexB, AdmI, AdmE, AdmJ, LawE, RefBitsH, RefBitsI, Ref18B, Ref18A. -/
import Derived.Test.YtgkaafncfjlooaaGreatDoorPartAd7
import Derived.Lib.Split
import Derived.Lib.Atoi
import Derived.Lib.AtoiTie
import Derived.Lib.LaidTab
import Derived.Lib.AtoiErrMem
set_option maxHeartbeats 16000000
set_option maxRecDepth 100000
open Go.Proofs.Tryz
set_option linter.unusedSimpArgs false
set_option linter.unusedVariables false
namespace Go.Proofs.YtgkaafncfjlooaaGreatDoor
section
open Go.RowKit Cal
attribute [local go_sem] zag zaj zbb
theorem allA_ok {s:SchemaL}:∀ (R:List RecL) (p:Option Int),allA s p R = 0→∀ r∈R,zer s r = 0
 | [],_,_,r,hr=>by simp at hr
 | x :: R,p,h,r,hr=>by
  unfold allA at h;split at h
  ·next h1 =>
   split at h
   ·cases h
   ·rcases List.mem_cons.1 hr with rfl | h2
    ·exact h1
    ·exact allA_ok R _ h r h2
  ·next h1=>exact absurd h h1
theorem ziq {s:SchemaL} {R:List RecL} (h:allN s R = 0):zax s = 0∧R.length≤64∧∀ r∈R,zdj s r = 0:=by
 unfold allN at h;split at h
 ·next h0 =>
  split at h
  ·next h1=>exact ⟨h0,h1,fun r hr=>by unfold zdj; rw [if_pos h0]; exact allA_ok R none h r hr⟩
  ·cases h
 ·next h0=>exact absurd h h0
structure RecsOk (s:SchemaL) (R:List RecL):Prop where
 all:allN s R = 0
 short:∀ r∈R,∀ x∈r.vals,x.length≤64
theorem RecsOk.vals {s:SchemaL} {R:List RecL} (h:RecsOk s R) (hn:s.fields.length≤1000):∀ r∈R,r.vals.length≤1000000:=by
 intro r hr;have:=(zgp ((ziq h.all).2.2 r hr)).2.2.1;omega
theorem check_short {s:SchemaL} {r:RecL} (h:zdj s r = 0):∀ x∈r.vals,x.length≤64:=by
 obtain ⟨hc,_,hl,hno⟩:=zgp h;intro x hx;obtain ⟨j,hj,rfl⟩:=List.mem_iff_getElem.1 hx;by_cases h0:r.vals[j] = []
 ·rw [h0]; simp
 ·have hnj:=zhf s r.vals 0 hno j hj
  rw [Nat.zero_add,za5 _ _ hj] at hnj;have hfi:zbm s (j:Int) = ((s.fields.getD j default).2,0):=zjd hc (by omega)
  have hown:ownK (s.fields.getD j default).2 s.rules r.vals[j] = true:=by
   unfold zaq at hnj;rw [hfi,if_pos rfl,if_neg h0] at hnj;exact hnj
  have hkk:=zed (s:=s) (f:=(j:Int)) (by rw [hfi]);rw [hfi] at hkk;exact (zi5 hown hkk).1
theorem infoR:(prog.info? 68).map (fun i=>(i.zero,i.size,i.bytes)) = some (some (.agg #[.int .i64 0,.int .i64 0,.slice none 0 0]),3,40):=by kernel_rfl
theorem one_encRV:∀ x:RV,∀ u∈encRV x,u.oneCell' = true:=by intro x u hu; simp at hu; rcases hu with rfl | rfl | rfl <;> rfl
structure ROut (D:Nat) (W:World) (s:SchemaL) (v:Value) (C:List RV) (id:Int) (wr:World):Prop where
 own:OwnM D 68 3 encRV W v C wr
 vals:∀ x∈C,Vec wr (zfu W.heap.size v) 1 zba (.slice x.a x.n x.c) x.vals
 ok:∀ x∈C,zdj s (pR x) = 0∧∀ y∈x.vals,y.length≤64
 asc:C.Pairwise fun x y=>x.id < y.id
 le:∀ x∈C,x.id≤id
 id0:0≤id
 id3:id≤3 * C.length
theorem ROut.nil {D:Nat} {W wr:World} {s:SchemaL} (m:Moved D W wr):ROut D W s (.slice none 0 0) [] 0 wr:=⟨OwnM.nil m,fun x h=>by simp at h,fun x h=>by simp at h,List.Pairwise.nil,fun x h=>by simp at h,by omega,by simp⟩
theorem ROut.moved {D:Nat} {W wr wx:World} {s:SchemaL} {v:Value} {C:List RV} {id:Int} (h:ROut D W s v C id wr) (m:Moved D wr wx):ROut D W s v C id wx :=
 ⟨h.own.moved m,fun x hx=>(h.vals x hx).move m.size fun b hb hs=>⟨m.grown.block b hb (by have:=h.own.2.lt; have:=hs.1; simp; omega),hs⟩,h.ok,h.asc,h.le,h.id0,h.id3⟩
theorem recs_ok {s:SchemaL} {C:List RV} (h0:zax s = 0) (ok:∀ x∈C,zdj s (pR x) = 0∧∀ y∈x.vals,y.length≤64) (asc:C.Pairwise fun x y=>x.id < y.id) (hl:C.length≤64):RecsOk s (C.map pR):=by
 refine ⟨?_,fun r hr=>?_⟩
 ·unfold allN
  rw [if_pos h0,if_pos (by simpa using hl)]
  refine allA_yes _ none (fun r hr=>?_) (fun q r hq=>by cases hq) (fun j hj=>?_)
  ·obtain ⟨x,hx,rfl⟩:=List.mem_map.1 hr
   have:=(ok x hx).1;unfold zdj at this;rwa [if_pos h0] at this
  ·rw [List.getElem_map,List.getElem_map]
   exact List.pairwise_iff_getElem.1 asc j (j + 1) _ _ (by omega)
 ·obtain ⟨x,hx,rfl⟩:=List.mem_map.1 hr
  exact (ok x hx).2
def RecordsPost (D:Nat) (s:SchemaL) (most:Nat) (w:World) (e:Ending) (w':World):Prop:=∃ v R,e = .returned v∧RecsVec w' (fun b=>w.heap.size≤b) v R∧RecsOk s R∧R.length≤most∧(R.Pairwise fun x y=>x.id < y.id)∧Moved D w w'
def RecordsOwn (D:Nat) (s:SchemaL) (most:Nat) (w:World) (e:Ending) (w':World):Prop:=∃ (v:Value) (C:List RV) (W:World) (id:Int),e = .returned v∧ROut D W s v C id w'∧Moved D w W∧C.length≤most∧zax s = 0
theorem RecordsOwn.post {D:Nat} {s:SchemaL} {most:Nat} {w w':World} {e:Ending} (hm:most≤64) (h:RecordsOwn D s most w e w'):RecordsPost D s most w e w':=by
 obtain ⟨v,C,W,id,rfl,ho,mv,hl,hc⟩:=h;have hz:=mv.size
 refine ⟨_,C.map pR,rfl,⟨C,(OwnM.vec (size:=3) (enc:=encRV) (fun _=>rfl) ho.own).move xnl (fun x _ hx=>⟨rfl,by have hx':W.heap.size≤x:=hx; show w.heap.size≤x; omega⟩),rfl,fun y hy=>(ho.vals y hy).move xnl (fun x _ hx=>⟨rfl,by have hx':=hx.1; show w.heap.size≤x; omega⟩)⟩,recs_ok hc ho.ok ho.asc (by omega),by rw [List.length_map]; omega,?_,mv.trans ho.own.2⟩
 exact List.pairwise_map.2 ho.asc
theorem records_dealO (D:Nat) (S:Nat→Prop) (vf vt vn vs:Value) (s:SchemaL) (most:Nat) (w:World) (h:DeckAt w D) (hs:SchemaAt w S vf vt vn vs s) (hS:∀ b,S b→b≠D) (hd:SchemaD s) (hm:most≤64) :
  Calls prog 11 #[.pointer (some ⟨D,0,none⟩),.agg #[vf,vt,vn,vs],.int .i64 most] w (RecordsOwn D s most w):=by
 have zD:=h.lt;have M0:=zjp (Moved.start h); clear h;have HS:=zjp hs; have HSD:=zjp hd; have HSne:=zjp hS;clear hs hd hS;go_enter func11,ntmps11
 go_wp2_with fail
 refine zai (fun W hW=>?_)
 have hm0:Moved D w W:=by rw [hW]; exact M0.out.alloc _
 have hb0:=xal hW
 have hs0:W.heap[w.heap.size]? = some (.cells #[vf,vt,vn,vs] 33 (0,0)):=by rw [hW]; exact zac rfl
 have hzW:W.heap.size = w.heap.size + 1:=by rw [hW]; simp
 clear hW;have HM:=zjp hm0; have HS0:=zjp hs0; have HSW:=zjp (HS.out.below hb0); have HZW:=zjp hzW;clear hm0 hs0 hb0 hzW;refine (zc0 D _ (most + 1) HM.out.deck (by omega) (by omega)).mono ?_;rintro e w1 ⟨q,rfl,q0,q1,mv⟩;obtain ⟨q,rfl⟩:=Int.eq_ofNat_of_zero_le q0;have MW:=zjp mv;clear mv;go_wp2_with fail
 go_loopw [7,8,9] (fun v t i wr=>∃ (j:Nat) (id:Int) (C:List RV),t = .int .i64 id∧i = .int .i64 j∧C.length + j = q∧ROut D W s v C id wr) (fun _ _ i _=>(intOf i).toNat)
 case atStart=>exact ⟨q,0,[],rfl,rfl,by simp,ROut.nil MW.out⟩
 case round =>
  obtain ⟨j,id,C,rfl,rfl,hj,ho⟩:=hrel;have HO:=zjp ho; have HJ:=zjp hj; clear ho hj;have hzr:=HO.out.own.2.size;by_cases hlt:0 < j
  ·have hq:decide ((0:Int) < (j:Int)) = true:=by simp; omega
   have hCl:C.length≤63:=by have:=HJ.out; omega
   have hjq:j≤65:=by have:=HJ.out; omega
   have hi0:=HO.out.id0; have hi3:=HO.out.id3;go_wp2_with fail
   refine (zc0 D _ 3 HO.out.own.2.deck (by omega) (by omega)).mono ?_;rintro e w2 ⟨x,rfl,x0,x1,mv⟩;have HO2:=zjp (HO.out.moved mv);have hsx:=HO2.out.own.2.blk (k:=w.heap.size) (by omega) HS0.out;have HSX:=zjp hsx;obtain ⟨s0,s1,s2,s3⟩:=zak hsx;have hzs:=zaa hsx;clear mv HO hsx;go_wp2_with fail
   refine (record_deal D S _ _ _ _ s (id + (1 + x)) w2 HO2.out.own.2.deck (HSW.out.moved HSne.out HO2.out.own.2) HSne.out HSD.out (by omega) (by omega)).mono ?_;rintro e w3 ⟨_,r,rfl,⟨sv,rfl,hv⟩,hid,hck,hsh,mv⟩;obtain ⟨av,cv,rfl⟩:=hv.slice;have hzw2:=HO2.out.own.2.size
   have hown6:∀ x,w2.heap.size≤x→some x≠u7.ownBlock:=by
    intro x hx'
    rcases HO2.out.own.1.2 with ⟨h0,_⟩ | ⟨g,cap,cur,h0,hg,hh,_⟩
    ·rw [h0]; simp [Value.ownBlock]
    ·rw [h0]; have:=zaa hh; simp [Value.ownBlock]; omega
   have HO3:=zjp (HO2.out.moved mv);have HO4:=zjp (HO3.out.own.moved ((Moved.start HO3.out.own.2.deck).alloc (.cells #[.int .i64 r.id,.int .i64 r.ver,.slice av r.vals.length cv] 68)));have HR4:=zjp (show zcn (w3.alloc (.cells #[.int .i64 r.id,.int .i64 r.ver,.slice av r.vals.length cv] 68)) 3 (.slice (some ⟨w3.heap.size,0,none⟩) 1 1) [(⟨r.id,r.ver,av,r.vals.length,cv,r.vals⟩:RV)].length ([(⟨r.id,r.ver,av,r.vals.length,cv,r.vals⟩:RV)].flatMap encRV) from za2 (xs:=[(⟨r.id,r.ver,av,r.vals.length,cv,r.vals⟩:RV)].flatMap encRV) (fr:=(0,0)) (t:=68) (zac rfl) rfl);have HVN:=zjp (hv.move (w':=w3) (S':=fun x=>some x≠u7.ownBlock∧W.heap.size≤x) xnl (fun x _ hx'=>⟨rfl,hown6 x hx',by have h':w2.heap.size≤x:=hx'; omega⟩))
   have HVO:=zjp (fun y (hy:y∈C)=>(HO3.out.vals y hy).move (w':=w3) (S':=fun x=>some x≠u7.ownBlock∧W.heap.size≤x) xnl (fun x hx' hs=>⟨rfl,hs.2,hs.1⟩))
   have hcn:C.length + [(⟨r.id,r.ver,av,r.vals.length,cv,r.vals⟩:RV)].length≤1000000000:=by simp only [List.length_cons,List.length_nil]; omega
   have HCk:=zjp (show zdj s r = 0∧∀ y∈r.vals,y.length≤64 from ⟨hck,hsh⟩);have HId:=zjp hid;have HAsc:=zjp HO3.out.asc; have HLe:=zjp HO3.out.le; have HOk3:=zjp HO3.out.ok;obtain ⟨rid,rver,rvals⟩:=r;dsimp only at HO4 HR4 HVN hcn HCk HId;clear hv hid hck hsh mv s0 s1 s2 s3 hzs HSX HO2 HO3;go_wp2_with (at_builtin; refine zgc rfl (.tmp 23) (.tmp 28) 37 rfl D 68 (.agg #[.int .i64 0,.int .i64 0,.slice none 0 0]) 3 40 encRV (fun _=>rfl) one_encRV underlying37 infoR rfl (by decide) (by decide) (wA:=W) (v:=u7) (A:=C) (B:=[⟨rid,rver,av,rvals.length,cv,rvals⟩]) rfl HO4.out rfl HR4.out hcn ?_; intro v4 w4 ho4 hk4 hz4 hat4)
   go_roundw
   case rel =>
    have hmv:∀ b,b < w3.heap.size→(some b≠u7.ownBlock∧W.heap.size≤b)→w4.heap[b]? = w3.heap[b]?∧zfu W.heap.size v4 b:=by
     intro b hb hS;obtain ⟨q1,q2⟩:=hS;refine ⟨?_,q2,?_⟩
     ·obtain ⟨ob,hob⟩:∃ ob,w3.heap[b]? = some ob:=⟨_,Array.getElem?_eq_getElem hb⟩
      rw [hob];exact hk4 b ob q1 (zaf hob)
     ·rcases hat4 with h1 | h1 | h1
      ·rw [h1]; simp
      ·rw [← h1]; exact q1
      ·rw [h1]; simp; omega
    have hz34:w3.heap.size≤w4.heap.size:=by simp at hz4; omega
    have hidr:=HId.out
    refine ⟨j - 1,id + (1 + x),C ++ [⟨rid,rver,av,rvals.length,cv,rvals⟩],rfl,by go_num,by rw [List.length_append]; have:=HJ.out; show C.length + 1 + (j - 1) = q; omega,ho4,fun y hy=>?_,fun y hy=>?_,?_,fun y hy=>?_,by omega,by rw [List.length_append]; simp; omega⟩
    ·rcases List.mem_append.1 hy with h1 | h1
     ·exact (HVO.out y h1).move hz34 hmv
     ·simp at h1; subst h1; exact HVN.out.move hz34 hmv
    ·rcases List.mem_append.1 hy with h1 | h1
     ·exact HOk3.out y h1
     ·simp at h1; subst h1; exact HCk.out
    ·refine List.pairwise_append.2 ⟨HAsc.out,List.pairwise_singleton _ _,fun y hy z hz=>?_⟩
     simp at hz; subst hz;have:=HLe.out y hy;show y.id < rid; omega
    ·rcases List.mem_append.1 hy with h1 | h1
     ·have:=HLe.out y h1; omega
     ·simp at h1; subst h1; show rid≤_; omega
   case measure=>simp [intOf]; omega
  ·have hq:decide ((0:Int) < (j:Int)) = false:=by simp; omega
   obtain rfl:j = 0:=by omega
   go_wp2_with fail
   go_ret;exact ⟨_,C,W,id,rfl,HO.out,HM.out,by have:=HJ.out; omega,HSD.out.check⟩
theorem zf3 (D:Nat) (S:Nat→Prop) (vf vt vn vs:Value) (s:SchemaL) (most:Nat) (w:World) (h:DeckAt w D) (hs:SchemaAt w S vf vt vn vs s) (hS:∀ b,S b→b≠D) (hd:SchemaD s) (hm:most≤64) :
  Calls prog 11 #[.pointer (some ⟨D,0,none⟩),.agg #[vf,vt,vn,vs],.int .i64 most] w (RecordsPost D s most w) :=
 (records_dealO D S vf vt vn vs s most w h hs hS hd hm).mono fun _ _ h=>h.post hm
end
section
open Go.RowKit Cal
attribute [local go_sem] zag zaj za7
def EncPair (p:EncL × Int) (w:World) (e:Ending) (w':World):Prop:=∃ v,e = .returned (.tuple #[v,.int .i64 p.2])∧EncVal w' (fun x=>w.heap.size≤x) v p.1∧Below w.heap.size w w'
theorem zi0 {s:SchemaL} {P:List ParL} {r:RecL} (hp:zby s P = 0) (hr:zdj s r = 0):RecIn s P r:=by
 obtain ⟨h1,h2,h3⟩:=checkP_ok hp;exact ⟨h1,hr,h2,h3,check_short hr⟩
end
section
open Go.RowKit Cal
attribute [local go_sem] zag zaj za7
structure EV where
 id:Int
 ver:Int
 a:Option Addr
 n:Nat
 c:Nat
abbrev zev (x:EV):List Value:=[.int .i64 x.id,.int .i64 x.ver,.slice x.a x.n x.c]
theorem one_encEV:∀ x:EV,∀ u∈zev x,u.oneCell' = true:=by
 intro x u hu; simp at hu; rcases hu with rfl | rfl | rfl <;> rfl
theorem infoEV:(prog.info? 59).map (fun i=>(i.zero,i.size,i.bytes)) = some (some (.agg #[.int .i64 0,.int .i64 0,.slice none 0 0]),3,40):=by kernel_rfl
def EncsAll (w:World) (S:Nat→Prop) (C:List EV) (L:List EncL):Prop:=C.length = L.length∧∀ n (h1:n < C.length) (h2:n < L.length),EncVal w S (.agg (zev C[n]).toArray) L[n]
def EncsVec (w:World) (S:Nat→Prop) (v:Value) (L:List EncL):Prop:=∃ C,Vec w S 3 zev v C∧EncsAll w S C L
theorem EncVal.move {w w':World} {S T:Nat→Prop} {v:Value} {e:EncL} (h:EncVal w S v e) (hz:w.heap.size≤w'.heap.size) (hS:∀ x,x < w.heap.size→S x→w'.heap[x]? = w.heap[x]?∧T x):EncVal w' T v e:=by
 obtain ⟨s,rfl,h1⟩:=h; exact ⟨s,rfl,h1.move hz hS⟩
theorem EncVal.weaken {w:World} {S T:Nat→Prop} {v:Value} {e:EncL} (h:EncVal w S v e) (hS:∀ x,x < w.heap.size→S x→T x):EncVal w T v e:=h.move xnl fun x hx hs=>⟨rfl,hS x hx hs⟩
theorem EncVal.form {w:World} {S:Nat→Prop} {v:Value} {e:EncL} (h:EncVal w S v e):∃ c:EV,v = .agg (zev c).toArray∧EncVal w S (.agg (zev c).toArray) e:=by
 obtain ⟨s,rfl,h1⟩:=h;obtain ⟨a,cap,rfl⟩:=h1.slice;exact ⟨⟨e.id,e.ver,a,e.fields.length,cap⟩,rfl,_,rfl,h1⟩
theorem EncsAll.move {w w':World} {S T:Nat→Prop} {C:List EV} {L:List EncL} (h:EncsAll w S C L) (hz:w.heap.size≤w'.heap.size) (hS:∀ x,x < w.heap.size→S x→w'.heap[x]? = w.heap[x]?∧T x):EncsAll w' T C L :=
 ⟨h.1,fun n h1 h2=>(h.2 n h1 h2).move hz hS⟩
theorem EncsAll.snoc {w:World} {S:Nat→Prop} {C:List EV} {L:List EncL} {c:EV} {e:EncL} (h:EncsAll w S C L) (hc:EncVal w S (.agg (zev c).toArray) e):EncsAll w S (C ++ [c]) (L ++ [e]):=by
 refine ⟨by simp [h.1],fun n h1 h2=>?_⟩
 by_cases hn:n < C.length
 ·have hn2:n < L.length:=by rw [← h.1]; exact hn
  rw [List.getElem_append_left hn,List.getElem_append_left hn2];exact h.2 n hn hn2
 ·have hn2:¬ n < L.length:=by rw [← h.1]; exact hn
  rw [List.getElem_append_right (by omega),List.getElem_append_right (by omega)];have:n = C.length:=by simp at h1; omega
  subst this;simp only [Nat.sub_self,h.1];simpa using hc
theorem EncsVec.move {w w':World} {S T:Nat→Prop} {v:Value} {L:List EncL} (h:EncsVec w S v L) (hz:w.heap.size≤w'.heap.size) (hS:∀ x,x < w.heap.size→S x→w'.heap[x]? = w.heap[x]?∧T x):EncsVec w' T v L:=by
 obtain ⟨C,h1,h2⟩:=h; exact ⟨C,h1.move hz hS,h2.move hz hS⟩
theorem EncsVec.below {w w':World} {S:Nat→Prop} {v:Value} {L:List EncL} (h:EncsVec w S v L) (hb:Below w.heap.size w w'):EncsVec w' S v L:=h.move hb.size fun x hx hs=>⟨hb.block x hx,hs⟩
theorem EncsVec.slice {w:World} {S:Nat→Prop} {v:Value} {L:List EncL} (h:EncsVec w S v L):∃ a cap,v = .slice a L.length cap:=by
 obtain ⟨C,h1,h2⟩:=h;obtain ⟨a,cap,rfl⟩:=h1.slice;exact ⟨a,cap,by rw [h2.1]⟩
theorem EncsVec.nil (w:World) (S:Nat→Prop):EncsVec w S (.slice none 0 0) []:=⟨[],Vec.nil _ _ _ _,rfl,fun n h1 _=>by simp at h1⟩
theorem EncsVec.at {w:World} {S:Nat→Prop} {a:Option Addr} {n cap:Nat} {L:List EncL} (h:EncsVec w S (.slice a n cap) L) (j:Nat) (hj:j < L.length) :
  ∃ (b off:Nat) (c:EV),a = some ⟨b,off,none⟩∧b < w.heap.size∧(w.cell? ⟨b,off + j * 3,none⟩ = some (.int .i64 c.id)∧w.cell? ⟨b,off + j * 3 + 1,none⟩ = some (.int .i64 c.ver)∧w.cell? ⟨b,off + j * 3 + 2,none⟩ = some (.slice c.a c.n c.c))∧EncVal w S (.agg (zev c).toArray) L[j]:=by
 obtain ⟨C,hC,hA⟩:=h;have hj2:j < C.length:=by rw [hA.1]; exact hj
 obtain ⟨b,off,e,hb,hc⟩:=hC.get j hj2;exact ⟨b,off,C[j],e,hb,⟨hc 0 _ rfl,hc 1 _ rfl,hc 2 _ rfl⟩,hA.2 j hj2 hj⟩
theorem EncsAll.grow {w:World} {v v':Value} {C:List EV} {L:List EncL} {c:EV} {e:EncL} {wr wy w5:World} (h:EncsAll wr (zfu w.heap.size v) C L) (hown:∀ g,v.ownBlock = some g→g < wr.heap.size) (hwz:w.heap.size≤wr.heap.size) (hb:Below wr.heap.size wr wy) (hc:EncVal wy (fun b=>wr.heap.size≤b) (.agg (zev c).toArray) e)
  (hk:∀ q o,some q≠v.ownBlock→wy.heap[q]? = some o→w5.heap[q]? = some o) (hz:wy.heap.size≤w5.heap.size) (hat:v'.ownBlock = none∨v.ownBlock = v'.ownBlock∨∃ g,v'.ownBlock = some g∧wy.heap.size≤g):EncsAll w5 (zfu w.heap.size v') (C ++ [c]) (L ++ [e]):=by
 have hS:∀ b,b < wy.heap.size→zfu w.heap.size v b→w5.heap[b]? = wy.heap[b]?∧zfu w.heap.size v' b:=by
  intro b hb' hs;obtain ⟨ob,hob⟩:∃ ob,wy.heap[b]? = some ob:=⟨_,Array.getElem?_eq_getElem hb'⟩;rw [hob];refine ⟨hk b ob hs.2 hob,hs.1,?_⟩
  rcases hat with h1 | h1 | ⟨g,h1,h2⟩
  ·rw [h1]; simp
  ·rw [← h1]; exact hs.2
  ·rw [h1]; intro e; cases e; omega
 have h1:EncsAll wy (zfu w.heap.size v) C L:=h.move hb.size fun x hx hs=>⟨hb.block x hx,hs⟩
 have h2:EncVal wy (zfu w.heap.size v) (.agg (zev c).toArray) e:=hc.weaken fun b _ hb'=>⟨by omega,fun e=>by have:=hown b e.symm; omega⟩
 exact (h1.move hz hS).snoc (h2.move hz hS)
structure CapB (sb pb kb:Nat) (vf vt vn vs:Value) (s:SchemaL) (pa:Option Addr) (pc:Nat) (P:List ParL) (k:Int × Int) (w:World):Prop where
 bs:w.heap[sb]? = some (.cells #[vf,vt,vn,vs] 33 (0,0))
 bp:w.heap[pb]? = some (.cells #[.slice pa P.length pc] 35 (0,0))
 bk:w.heap[kb]? = some (.cells #[.int .u64 k.1,.int .u64 k.2] 41 (0,0))
 sch:SchemaAt w zav vf vt vn vs s
 par:Vec w zav 3 zdi (.slice pa P.length pc) P
theorem CapB.below {sb pb kb:Nat} {vf vt vn vs:Value} {s:SchemaL} {pa:Option Addr} {pc:Nat} {P:List ParL} {k:Int × Int} {w w':World} (h:CapB sb pb kb vf vt vn vs s pa pc P k w) (hb:Below w.heap.size w w'):CapB sb pb kb vf vt vn vs s pa pc P k w' :=
 ⟨zab hb (zaa h.bs) h.bs,zab hb (zaa h.bp) h.bp,zab hb (zaa h.bk) h.bk,h.sch.below hb,h.par.below hb⟩
theorem closB_yes (sb pb kb:Nat) (vf vt vn vs:Value) (s:SchemaL) (pa:Option Addr) (pc:Nat) (P:List ParL) (k:Int × Int) (i:Int) (r:RecL) (sv:Value) (w:World) (h:CapB sb pb kb vf vt vn vs s pa pc P k w) (hv:Vec w zav 1 zba sv r.vals) (hf:EncIn s P r.vals) :
  Calls prog 66 #[.int .i64 i,.agg #[.int .i64 r.id,.int .i64 r.ver,sv],.pointer (some ⟨sb,0,none⟩),.pointer (some ⟨pb,0,none⟩),.pointer (some ⟨kb,0,none⟩)] w (EncPost (zen s P k r) w):=by
 obtain ⟨av,cv,rfl⟩:=hv.slice;obtain ⟨rid,rver,vals⟩:=r;dsimp only at hv hf ⊢;obtain ⟨X,hX⟩:∃ X,zen s P k ⟨rid,rver,vals⟩ = X:=⟨_,rfl⟩;rw [hX];have HX:=zjp hX; have HC:=zjp h; have HV:=zjp hv; have HF:=zjp hf;obtain ⟨s0,s1,s2,s3⟩:=zak h.bs; obtain ⟨k0,k1⟩:=zae h.bk;have p0:w.cell? ⟨pb,0,none⟩ = some (.slice pa P.length pc):=by rw [cell_of_row _ _ _ _ _ _ h.bp]; rfl
 have ls:=zaa h.bs; have lp:=zaa h.bp; have lk:=zaa h.bk;clear h hv hf hX;go_enter func66,ntmps66
 go_wp2_with fail
 refine zai (fun W hW=>?_)
 have hb0:=xam hW
 have hz0:W.heap[w.heap.size + 1]? = some (.cells #[.int .i64 0,.int .i64 0,.slice none 0 0] 59 (0,0)):=by rw [hW]; exact zac (by simp)
 clear hW;have HB0:=zjp hb0; have HZ0:=zjp hz0;refine (encoded_yes zav _ _ _ _ s P _ k ⟨rid,rver,vals⟩ _ _ (HC.out.sch.below hb0) (HC.out.par.below hb0) (HV.out.below hb0) HF.out).mono ?_;rw [HX.out];rintro e w1 ⟨_,rfl,hev,hb⟩;obtain ⟨⟨xi,xv,xa,xn,xc⟩,rfl,hev'⟩:=hev.form;have HEv:=zjp hev';have HB1:=zjp (HB0.out.trans (hb.mono HB0.out.size)); have HZ1:=zjp (zab hb (zaa HZ0.out) HZ0.out);have lz0:=zaa HZ0.out;obtain ⟨z0,z1,z2⟩:=zao HZ1.out;have lz:=zaa HZ1.out;have f0:=frozen_of_row _ _ 0 _ _ HZ1.out; have f1:=frozen_of_row _ _ 1 _ _ HZ1.out; have f2:=frozen_of_row _ _ 2 _ _ HZ1.out;clear hb hb0 hz0 hev hev' s0 s1 s2 s3 k0 k1 p0;go_wp2_with fail
 refine zah rfl rfl (zad (i:=2) (v:=.slice xa xn xc) (zad (i:=1) (v:=.int .i64 xv) (zad (i:=0) (v:=.int .i64 xi) HZ1.out))) underlying59 rfl (by kernel_rfl)
  ⟨_,rfl,HEv.out.move (by simp [World.setCell]) (fun b hb hs=>?_),((HB1.out.setCell (p:=⟨w.heap.size + 1,0,none⟩) (by simp) _).setCell (p:=⟨w.heap.size + 1,1,none⟩) (by simp) _).setCell (p:=⟨w.heap.size + 1,2,none⟩) (by simp) _⟩
 have hs':W.heap.size≤b:=hs;rw [heap_setCell_other _ _ _ _ (by show b≠w.heap.size + 1; omega),heap_setCell_other _ _ _ _ (by show b≠w.heap.size + 1; omega),heap_setCell_other _ _ _ _ (by show b≠w.heap.size + 1; omega)];exact ⟨rfl,by omega⟩
def EachAllPost (L:List EncL) (w:World) (e:Ending) (w':World):Prop:=∃ v,e = .returned (.tuple #[v,.int .i64 0])∧EncsVec w' (fun x=>w.heap.size≤x) v L∧Below w.heap.size w w'
theorem eachE_yes (sb pb kb:Nat) (vf vt vn vs:Value) (s:SchemaL) (pa:Option Addr) (pc:Nat) (P:List ParL) (k:Int × Int) (rv:Value) (R:List RecL) (w:World) (h:CapB sb pb kb vf vt vn vs s pa pc P k w) (hr:RecsVec w zav rv R) (hf:∀ r∈R,EncIn s P r.vals) (hR:R.length≤1000000) :
  Calls prog 65 #[rv,.func (.func 66) #[] #[.pointer (some ⟨sb,0,none⟩),.pointer (some ⟨pb,0,none⟩),.pointer (some ⟨kb,0,none⟩)]] w (EachAllPost (R.map (zen s P k)) w):=by
 obtain ⟨a,cap,rfl⟩:=hr.slice;have HC:=zjp h; have HR:=zjp hr; have HF:=zjp hf;clear h hr hf;go_enter func65,ntmps65
 go_wp2_with fail
 go_loopw [6,13] (fun v i wr=>∃ (j:Nat) (C:List EV),i = .int .i64 j∧j≤R.length∧C.length = j∧OwnV 59 3 zev w v C wr∧EncsAll wr (zfu w.heap.size v) C ((R.take j).map (zen s P k))) (fun _ i _=>R.length - (intOf i).toNat)
 case atStart=>exact ⟨0,[],rfl,by omega,rfl,OwnV.start _ _ _ _,rfl,fun n h1 _=>by simp at h1⟩
 case round =>
  obtain ⟨j,C,rfl,hj,hCl,ho,hba⟩:=hrel;have HO:=zjp ho; have HBA:=zjp hba; have HCl:=zjp hCl;obtain ⟨va,vc,ev⟩:=zau ho.1;rw [hCl] at ev;subst ev;clear ho hba hCl;obtain ⟨WR,hWR⟩:∃ u,u = wr:=⟨_,rfl⟩;subst hWR;by_cases hlt:j < R.length
  ·have hq:decide ((j:Int) < R.length) = true:=by simp; omega
   have hji:(j:Int) < (R.length:Int):=by omega
   obtain ⟨b,off,id,ver,aa,nn,cc,vals,rfl,lb,c0,c1,c2,hRk,hvv⟩:=(HR.out.below HO.out.2).at j hlt;have hnn:=hvv.len.1;subst hnn;have hef:=HF.out _ (List.getElem_mem hlt);rw [hRk] at hef;have hts:(R.take (j + 1)).map (zen s P k) = (R.take j).map (zen s P k) ++ [zen s P k ⟨id,ver,vals⟩]:=by rw [List.take_succ_eq_append_getElem hlt,hRk]; simp
   obtain ⟨X,hX⟩:∃ X,zen s P k ⟨id,ver,vals⟩ = X:=⟨_,rfl⟩;rw [hX] at hts;have HEf:=zjp hef; have HTs:=zjp hts; have HVv:=zjp hvv; have HX:=zjp hX;clear hef hts hvv hRk hX;go_wp2_with fail
   have hbA:Below WR.heap.size WR (WR.alloc (.cells #[.int .i64 id,.int .i64 ver,.slice aa vals.length cc] 68)):=(Below.refl _ _).alloc xnl _;refine (closB_yes sb pb kb vf vt vn vs s pa pc P k (j:Int) ⟨id,ver,vals⟩ _ _ (HC.out.below (HO.out.2.trans (hbA.mono HO.out.2.size))) (HVv.out.below hbA) HEf.out).mono ?_;rw [HX.out];rintro e w1 ⟨_,rfl,hev,hb1⟩;obtain ⟨⟨xi,xv,xa,xn,xc⟩,rfl,hev'⟩:=hev.form;have hb2:Below WR.heap.size WR w1:=hbA.trans (hb1.mono hbA.size);have hev2:=hev'.weaken (T:=fun b=>WR.heap.size≤b) (fun b _ hb=>by have hb':(WR.alloc (.cells #[.int .i64 id,.int .i64 ver,.slice aa vals.length cc] 68)).heap.size≤b:=hb; simp at hb'; omega)
   have hb3:Below WR.heap.size WR ((w1.alloc (.cells (zev ⟨xi,xv,xa,xn,xc⟩).toArray 59)).alloc (.cells (zev ⟨xi,xv,xa,xn,xc⟩).toArray 59)):=(hb2.alloc hb2.size _).alloc (by have:=hb2.size; simp; omega) _;have HO2:=zjp (HO.out.below hb3); have HB2:=zjp hb2; have HEv:=zjp hev2;have HR2:=zjp (show zcn ((w1.alloc (.cells (zev ⟨xi,xv,xa,xn,xc⟩).toArray 59)).alloc (.cells (zev ⟨xi,xv,xa,xn,xc⟩).toArray 59)) 3 (.slice (some ⟨w1.heap.size + 1,0,none⟩) 1 1) [(⟨xi,xv,xa,xn,xc⟩:EV)].length ([(⟨xi,xv,xa,xn,xc⟩:EV)].flatMap zev) from za2 (xs:=[(⟨xi,xv,xa,xn,xc⟩:EV)].flatMap zev) (fr:=(0,0)) (t:=59) (zac (by simp)) rfl);have hcn:C.length + [(⟨xi,xv,xa,xn,xc⟩:EV)].length≤1000000000:=by rw [HCl.out]; simp only [List.length_cons,List.length_nil]; omega
   clear hev hev' hev2 hb1 hb2 hb3 hbA c0 c1 c2;go_wp2_with (at_builtin; refine zc4 rfl (.tmp 28) (.tmp 30) 50 rfl 59 (.agg #[.int .i64 0,.int .i64 0,.slice none 0 0]) 3 40 zev (fun _=>rfl) one_encEV underlying50 infoEV rfl (by decide) (by decide) (w0:=w) (v:=.slice va j vc) (A:=C) (B:=[⟨xi,xv,xa,xn,xc⟩]) rfl HO2.out rfl HR2.out hcn ?_; intro v2 w2 ho2 hk2 hz2 hat2)
   go_roundw
   case rel =>
    refine ⟨j + 1,C ++ [⟨xi,xv,xa,xn,xc⟩],by go_num,by omega,by rw [List.length_append,HCl.out]; rfl,ho2,?_⟩;rw [HTs.out]
    exact HBA.out.grow (fun g e=>(World.ownsRow.lt HO.out.1 g e).2) HO.out.2.size HB2.out HEv.out (fun q o h1 h2=>hk2 q o h1 (zaf (zaf h2))) (Nat.le_trans (by simp; omega) hz2) (by
     rcases hat2 with h1 | h1 | h1
     ·exact .inl h1
     ·exact .inr (.inl h1)
     ·exact .inr (.inr ⟨_,h1,by simp; omega⟩))
   case measure=>simp [intOf]; omega
  ·have hq:decide ((j:Int) < R.length) = false:=by simp; omega
   obtain rfl:j = R.length:=by omega
   rw [List.take_of_length_le xnl] at HBA;go_wp2_with fail
   go_ret2;exact ⟨_,rfl,⟨C,OwnV.vec (size:=3) (enc:=zev) (fun _=>rfl) HO.out,HBA.out.move xnl fun x _ hx=>⟨rfl,hx.1⟩⟩,HO.out.2⟩
end
section
open Go.RowKit Cal
def zg6 (s:SchemaL) (P:List ParL) (k:Int × Int) (R:List RecL):List EncL × Int :=
 if zby s P = 0 then (if allN s R = 0 then (R.map (zen s P k),0) else ([],allN s R)) else ([],zby s P)
def AllEPost (p:List EncL × Int) (w:World) (e:Ending) (w':World):Prop:=∃ v,e = .returned (.tuple #[v,.int .i64 p.2])∧EncsVec w' (fun x=>w.heap.size≤x) v p.1∧Below w.heap.size w w'
theorem encIn_all {s:SchemaL} {P:List ParL} {R:List RecL} (hc:zby s P = 0) (hR:allN s R = 0):∀ r∈R,EncIn s P r.vals:=fun r hr=>(zi0 hc ((ziq hR).2.2 r hr)).enc
theorem eall_any (S T:Nat→Prop) (vf vt vn vs rv:Value) (s:SchemaL) (P:List ParL) (pv:Value) (k:Int × Int) (R:List RecL) (w:World) (h:SchemaAt w S vf vt vn vs s) (hp:Vec w zav 3 zdi pv P) (hr:RecsVec w T rv R) (hi:∀ p∈P,InI p.len) (hn:P.length≤1000000)
  (hs:∀ r∈R,∀ x∈r.vals,x.length≤1000000) (hm:∀ r∈R,r.vals.length≤1000000) (hR:R.length≤1000000) :
  Calls prog 39 #[.agg #[vf,vt,vn,vs],pv,.agg #[.int .u64 k.1,.int .u64 k.2],rv] w (AllEPost (zg6 s P k R) w):=by
 obtain ⟨a,cap,rfl⟩:=hp.slice;obtain ⟨ar,cr,rfl⟩:=hr.slice;have HS:=zjp h.any; have HP:=zjp hp; have HR:=zjp hr.any; have HI:=zjp hi; have HSh:=zjp hs; have HM:=zjp hm;obtain ⟨ce,hce⟩:∃ c,zby s P = c:=⟨_,rfl⟩;obtain ⟨ca,hca⟩:∃ c,allN s R = c:=⟨_,rfl⟩;obtain ⟨Z,hZ⟩:∃ Z,zg6 s P k R = Z:=⟨_,rfl⟩;rw [hZ];have HCe:=zjp hce; have HCa:=zjp hca; have HZ:=zjp hZ;clear h hp hr hi hs hm hce hca hZ;go_enter func39,ntmps39
 go_wp2_with fail
 refine zai (fun W hW=>?_)
 have hb0:Below w.heap.size w W:=by rw [hW]; exact (((Below.refl w.heap.size w).alloc xnl _).alloc (by simp) _).alloc (by simp; omega) _
 have hs0:W.heap[w.heap.size]? = some (.cells #[vf,vt,vn,vs] 33 (0,0)):=by rw [hW]; exact zaf (zaf (zac rfl))
 have hp0:W.heap[w.heap.size + 1]? = some (.cells #[.slice a P.length cap] 35 (0,0)):=by rw [hW]; exact zaf (zac (by simp))
 have hk0:W.heap[w.heap.size + 2]? = some (.cells #[.int .u64 k.1,.int .u64 k.2] 41 (0,0)):=by rw [hW]; exact zac (by simp)
 clear hW;refine (echeck_any zav _ _ _ _ s P _ _ (HS.out.below hb0) (HP.out.below hb0) HI.out hn).mono ?_;rw [HCe.out];rintro e w1 ⟨rfl,hb⟩;have HB1:=zjp (hb0.trans (hb.mono hb0.size));have HX1:=zjp (show CapB w.heap.size (w.heap.size + 1) (w.heap.size + 2) vf vt vn vs s a cap P k w1 from ⟨zab hb (zaa hs0) hs0,zab hb (zaa hp0) hp0,zab hb (zaa hk0) hk0,HS.out.below (hb0.trans (hb.mono hb0.size)),HP.out.below (hb0.trans (hb.mono hb0.size))⟩);clear hb hb0 hs0 hp0 hk0;obtain ⟨s0,s1,s2,s3⟩:=zak HX1.out.bs;have ls:=zaa HX1.out.bs;by_cases hc0:ce = 0;rotate_left
 ·have dz:(ce != 0) = true:=by simpa using hc0
  have hZ2:Z = ([],ce):=by rw [← HZ.out]; unfold zg6; rw [if_neg (by rw [HCe.out]; exact hc0),HCe.out]
  subst hZ2;clear HCe HCa HZ hc0;go_wp2_with fail
  go_ret2;exact ⟨_,rfl,EncsVec.nil _ _,HB1.out⟩
 have dz:(ce != 0) = false:=by simpa using hc0
 go_wp2_with fail
 refine (rall_any zav zav _ _ _ _ _ s R _ (HS.out.below HB1.out) (HR.out.below HB1.out) HSh.out HM.out hR).mono ?_;rw [HCa.out];rintro e w2 ⟨rfl,hb⟩;have HB2:=zjp (HB1.out.trans (hb.mono HB1.out.size)); have HX2:=zjp (HX1.out.below hb);clear hb s0 s1 s2 s3 ls;by_cases ha0:ca = 0;rotate_left
 ·have da:(ca != 0) = true:=by simpa using ha0
  have hZ2:Z = ([],ca):=by rw [← HZ.out]; unfold zg6; rw [if_pos (by rw [HCe.out]; exact hc0),if_neg (by rw [HCa.out]; exact ha0),HCa.out]
  subst hZ2;clear HCe HCa HZ hc0 ha0;go_wp2_with fail
  go_ret2;exact ⟨_,rfl,EncsVec.nil _ _,HB2.out⟩
 have da:(ca != 0) = false:=by simpa using ha0
 obtain ⟨L,hL⟩:∃ L,R.map (zen s P k) = L:=⟨_,rfl⟩;have hZ2:Z = (L,0):=by rw [← HZ.out,← hL]; unfold zg6; rw [if_pos (by rw [HCe.out]; exact hc0),if_pos (by rw [HCa.out]; exact ha0)]
 have HEn:=zjp (encIn_all (HCe.out.trans hc0) (HCa.out.trans ha0));have HZ3:=zjp hZ2;have HL:=zjp hL;clear HCe HCa HZ hc0 ha0 hZ2 hL;go_wp2_with fail
 refine (eachE_yes _ _ _ vf vt vn vs s a cap P k _ R _ HX2.out (HR.out.below HB2.out) HEn.out hR).mono ?_;rw [HL.out];rintro e w3 ⟨v,rfl,hv,hb⟩;obtain ⟨va,vc,rfl⟩:=hv.slice;have HV:=zjp (hv.move (T:=fun x=>w.heap.size≤x) xnl fun x _ hx=>⟨rfl,by have hx':w2.heap.size≤x:=hx; have:=HB2.out.size; omega⟩)
 have HB3:=zjp (HB2.out.trans (hb.mono HB2.out.size));clear hv hb;go_wp2_with fail
 go_ret2;rw [HZ3.out];exact ⟨_,rfl,HV.out,HB3.out⟩
end
section
open Go.RowKit
theorem fieldN_len {s:SchemaL} {p:ParL} {k:Int × Int} {A:List (List UInt8)} {i:Nat} (hp:ParOk p) (hf:(zbm s i).2 = 0) (hn:zaq s i (A.getD i []) = true):(zdh s p k A i).len = 0 ↔ A.getD i [] = []:=by
 unfold zdh;split
 next h=>exact ⟨fun _=>h,fun _=>rfl⟩
 next h =>
  obtain ⟨_,g2,_,_⟩:=zjb hn hf;have h1:=hp.len1;unfold zg3;rw [if_pos hp.bloom,if_pos g2];simp only [h,iff_false];omega
theorem getD_fields (s:SchemaL) (P:List ParL) (k:Int × Int) (A:List (List UInt8)) (n i:Nat) (h:i < n):(zci s P k A n).getD i zbg = zdh s (P.getD i default) k A i:=by
 unfold zci;rw [za5 _ _ (by simpa using h)];simp
theorem zfr (s:SchemaL) (P:List ParL) (k:Int × Int) (A:List (List UInt8)) (n:Nat):(zci s P k A n).length = n:=by simp [zci]
theorem digs_one (i:Nat) (h:i < 10):Lib.decDigits i = [UInt8.ofNat (48 + i)]:=by
 have:∀ j:Fin 10,Lib.decDigits j = [UInt8.ofNat (48 + j.val)]:=by decide +kernel
 exact this ⟨i,h⟩
end
section
theorem zjk {n k:Nat} (hk:1≤k) (h:n < 10 ^ k):(Lib.decDigits n).length≤k:=by
 rw [Lib.decDigits_length];induction k generalizing n with
 | zero=>omega
 | succ k ih =>
  by_cases hn:n < 10
  ·rw [Lib.nDigits_small hn]; omega
  ·rw [Lib.nDigits_big hn]
   have hk1:1≤k:=by
    rcases Nat.eq_zero_or_pos k with h0 | h0
    ·subst h0; simp at h; omega
    ·exact h0
   have:=ih (n:=n / 10) hk1 (by rw [Nat.pow_succ] at h; omega);omega
end
section
open Go.RowKit
end
section
def BitsIn (b:BitsL):Prop:=b = zbg∨(zap b = true∧∀ w∈b.words,0≤w∧w < 18446744073709551616)
theorem zgj:zap zbg = false:=by decide
end
section
open Go.RowKit
attribute [local go_sem] zag zaj za7
def WordsOk (b:BitsL):Prop:=∀ x∈b.words,0≤x∧x < 18446744073709551616
def HexIn (b:BitsL):Prop:=InI b.len∧(zap b = true→WordsOk b)
end
section
def WsOk (ws:List Int):Prop:=∀ x∈ws,0≤x∧x < 18446744073709551616
theorem orBit_ok {ws:List Int} (h:WsOk ws) (i:Int):WsOk (zfy ws i):=by
 intro x hx;unfold zfy at hx
 rcases List.mem_or_eq_of_mem_set hx with h1 | h1
 ·exact h x h1
 ·rw [h1]; exact bits_range _ _ _
theorem orBits_ok (l:List Int):∀ ws:List Int,WsOk ws→WsOk (l.foldl zfy ws):=by
 induction l with
 | nil=>intro ws h; exact h
 | cons x l ih=>intro ws h; rw [List.foldl_cons]; exact ih _ (orBit_ok h x)
theorem orGrams_ok (p:ParL) (k:Int × Int) (G:List (List UInt8)):∀ ws:List Int,WsOk ws→WsOk (G.foldl (zek p k) ws):=by
 induction G with
 | nil=>intro ws h; exact h
 | cons x l ih=>intro ws h; rw [List.foldl_cons]; exact ih _ (orBits_ok _ _ h)
theorem zeroW_ok (n:Int):WsOk (ze1 n):=by
 intro x hx;unfold ze1 at hx;rw [List.eq_of_mem_replicate hx]; decide
theorem fieldN_in {s:SchemaL} {p:ParL} {k:Int × Int} {A:List (List UInt8)} {i:Nat} (hp:ParOk p) (hn:zaq s i (A.getD i []) = true) (hf:(zbm s i).2 = 0):BitsIn (zdh s p k A i):=by
 unfold zdh;split
 ·exact .inl rfl
 ·refine .inr ?_
  have h80:=(zjb hn hf).2.1;unfold zg3;rw [if_pos hp.bloom,if_pos h80];refine ⟨?_,orGrams_ok p _ _ _ (zeroW_ok _)⟩;unfold zap;dsimp only;rw [hp.right,Bool.true_and,beq_iff_eq,orGrams_len];unfold ze1;rw [List.length_replicate];have:=hp.len1;omega
theorem fieldsN_in {s:SchemaL} {P:List ParL} {k:Int × Int} {r:RecL} (h:RecIn s P r):∀ b∈zci s P k r.vals P.length,BitsIn b:=by
 intro b hb;unfold zci at hb;obtain ⟨i,hi,rfl⟩:=List.mem_map.1 hb;rw [List.mem_range] at hi;obtain ⟨h0,_,hl,hno⟩:=zgp h.rec_;have hil:i < r.vals.length:=by rw [hl,← h.len]; exact hi
 have hn:=zhf s r.vals 0 hno i hil;rw [Nat.zero_add] at hn;exact fieldN_in (h.pars.1 i hi) hn (by rw [zjd h0 (by rw [← h.len]; exact hi)])
theorem bitsIn_hex {b:BitsL} (h:BitsIn b):HexIn b:=by
 rcases h with rfl | ⟨h1,h2⟩
 ·exact ⟨⟨by decide,by decide⟩,fun h=>by rw [zgj] at h; cases h⟩
 ·exact ⟨valid_in h1,fun _=>h2⟩
end
section
open Go.RowKit
def zef (E:List EncL) (f:Nat):List BitsL:=E.map fun e=>e.fields.getD f zbg
def zg8 (R:List RecL) (f:Nat):List (List UInt8):=R.map fun r=>r.vals.getD f []
def zdx:List (List zdl)→Int
 | []=>0
 | D :: L=>if zcg D = 0 then zdx L else zcg D
def zft (E:List EncL) (R:List RecL) (f:Nat) (D:List zdl):Ex :=
 ⟨f,zbx (zce (zef E f)),zgw (zce (zef E f)) (zg8 R f) (zd2 (zaz (zce (zef E f))) D),zbw (zef E f),zjf 0 (zef E f)⟩
def zd0 (E:List EncL) (R:List RecL):Nat→List (List zdl)→List Ex
 | _,[]=>[]
 | f,D :: L=>zft E R f D :: zd0 E R (f + 1) L
def zdq (s:SchemaL) (P:List ParL) (k:Int × Int) (R:List RecL) (Ds:List (List zdl)):List Ex × Int :=
 if zby s P = 0 then
  if allN s R = 0 then
   if Ds.length = s.fields.length then
    if zdx Ds = 0 then (zd0 (R.map (zen s P k)) R 0 Ds,0) else ([],zdx Ds)
   else ([],8)
  else ([],allN s R)
 else ([],zby s P)
theorem assessN_eq (E:List EncL) (R:List RecL) (f:Nat) (D:List zdl) (h:zcg D = 0):zhm f (zef E f) (zg8 R f) D = (zft E R f D,0):=by
 unfold zhm zft; rw [if_pos h]
theorem zcx (E:List EncL) (R:List RecL):∀ (Ds:List (List zdl)) (f:Nat),(zd0 E R f Ds).length = Ds.length
 | [],_=>rfl
 | D :: L,f=>by show (zd0 E R (f + 1) L).length + 1 = L.length + 1; rw [zcx E R L]
theorem zgn (E:List EncL) (R:List RecL):∀ (Ds:List (List zdl)) (f j:Nat) (h:j < Ds.length) (h2:j < (zd0 E R f Ds).length),(zd0 E R f Ds)[j] = zft E R (f + j) Ds[j]
 | [],_,j,h,_=>by simp at h
 | D :: L,f,0,_,_=>rfl
 | D :: L,f,j + 1,h,h2=>by
  show (zd0 E R (f + 1) L)[j]'_ = _;rw [zgn E R L (f + 1) j (by simpa using h)];rw [show f + 1 + j = f + (j + 1) by omega]; rfl
theorem exposN_snoc (E:List EncL) (R:List RecL) (D:List zdl):∀ (Ds:List (List zdl)) (f:Nat),zd0 E R f (Ds ++ [D]) = zd0 E R f Ds ++ [zft E R (f + Ds.length) D]
 | [],f=>rfl
 | X :: L,f=>by
  show zft E R f X :: zd0 E R (f + 1) (L ++ [D]) = _;rw [exposN_snoc E R D L (f + 1),show f + 1 + L.length = f + (X :: L).length by simp; omega]; rfl
theorem zga {Ds:List (List zdl)} (h:∀ D∈Ds,zcg D = 0):zdx Ds = 0:=by
 induction Ds with
 | nil=>rfl
 | cons D L ih=>unfold zdx; rw [if_pos (h D List.mem_cons_self)]; exact ih fun X hX=>h X (List.mem_cons_of_mem _ hX)
theorem zij {Ds:List (List zdl)} (h:zdx Ds = 0):∀ D∈Ds,zcg D = 0:=by
 induction Ds with
 | nil=>intro D h; cases h
 | cons X L ih =>
  unfold zdx at h;split at h
  ·next h0 =>
   intro D hD
   rcases List.mem_cons.1 hD with rfl | h1
   ·exact h0
   ·exact ih h D h1
  ·next h0=>exact absurd h h0
def zhg (L:List GrpL):Nat:=(L.map fun g=>g.mem.length).sum
theorem addG_membs (L:List GrpL) (i:Int) (b:BitsL):zhg (zho L i b) = zhg L + 1:=by
 induction L with
 | nil=>rfl
 | cons g L ih =>
  unfold zho;split
  ·simp [zhg]; omega
  ·have e:∀ X,zhg (g :: X) = g.mem.length + zhg X:=fun X=>by simp [zhg]
   rw [e,e,ih]; omega
theorem zja:∀ (C:List BitsL) (L:List GrpL) (n:Nat),zhg (zc1 L n C)≤zhg L + C.length
 | [],L,n=>by simp [zc1]
 | b :: C,L,n=>by
  unfold zc1;have h:=zja C (if zap b = true then zho L n b else L) (n + 1)
  have h2:zhg (if zap b = true then zho L n b else L)≤zhg L + 1:=by
   split
   ·rw [addG_membs]; exact Nat.le_refl _
   ·omega
  simp only [List.length_cons]; omega
theorem sum_some (l:List Int) (p:Int→Bool) (h:∀ x∈l,0≤x):0≤(l.map fun x=>if p x = true then x else 0).sum∧(l.map fun x=>if p x = true then x else 0).sum≤l.sum:=by
 induction l with
 | nil=>simp
 | cons x l ih =>
  have h0:=h x List.mem_cons_self;have:=ih fun y hy=>h y (List.mem_cons_of_mem _ hy)
  simp only [List.map_cons,List.sum_cons];split <;> omega
theorem sizes_sum (G:List GrpL):(zaz G).sum = ((zhg G:Nat):Int):=by
 induction G with
 | nil=>rfl
 | cons g G ih =>
  have e1:zaz (g :: G) = (g.mem.length:Int) :: zaz G:=rfl;have e2:zhg (g :: G) = g.mem.length + zhg G:=by simp [zhg]
  rw [e1,e2,List.sum_cons,ih]; omega
theorem singular_bd (C:List BitsL):0≤zbx (zce C)∧zbx (zce C)≤C.length:=by
 have h:=sum_some (zaz (zce C)) (fun x=>(zbz (zaz (zce C)) x).2) (by intro x hx; obtain ⟨g,_,rfl⟩:=List.mem_map.1 hx; omega)
 have h2:=zja C [] 0;have h3:=sizes_sum (zce C);have h4:zhg (zce C) = zhg (zc1 [] 0 C):=rfl;have h5:zhg [] = 0:=rfl;unfold zbx;omega
theorem countB_len {b:BitsL} (h:zap b = true):zcp b≤b.len:=by
 unfold zcp;rw [if_pos h];have:=sumPop_bd b.words;have:=(zcs h).1.1;omega
theorem fillB_1000 {b:BitsL} (h:zap b = true):0≤fillB b∧fillB b≤1000:=by
 have h1:=(zcs h).1; have h2:=zjl b; have h3:=countB_len h;unfold fillB;have e:(2000 * zcp b + b.len).tdiv (2 * b.len) = (2000 * zcp b + b.len) / (2 * b.len):=Int.tdiv_eq_ediv_of_nonneg (by omega);rw [e];refine ⟨Int.ediv_nonneg (by omega) (by omega),?_⟩;have hlt:(2000 * zcp b + b.len) / (2 * b.len) < 1001:=Int.ediv_lt_of_lt_mul (by omega) (by omega);omega
theorem fillN_bd:∀ (C:List BitsL) (g:Int),0≤g→g≤1000→0≤zjf g C∧zjf g C≤1000
 | [],g,h0,h1=>⟨h0,h1⟩
 | b :: C,g,h0,h1=>by
  unfold zjf;split
  ·next hv=>have:=fillB_1000 hv; exact fillN_bd C _ (by omega) (by omega)
  ·exact fillN_bd C _ h0 h1
theorem always_bd (C:List BitsL):0≤zbw C∧zbw C≤512:=by
 unfold zbw;split
 ·omega
 ·split
  ·omega
  ·exact zjl _
theorem guesses_nil (S:List Int):zd2 S [] = []:=by
 unfold zd2;rw [List.flatMap_eq_nil_iff];intro i _;unfold zfe;split <;> simp
theorem hits_nil (G:List GrpL) (V:List (List UInt8)) (S:List Int):zgw G V (zd2 S []) = 0:=by rw [guesses_nil]; rfl
theorem expos_ok (E:List EncL) (R:List RecL) (n:Nat) (hE:E.length≤64) (h1:1≤n) (h5:n≤5):chkE (zd0 E R 0 (List.replicate n [])) = 0:=by
 unfold chkE;rw [zcx,List.length_replicate,if_pos ⟨h1,h5⟩,if_pos];rw [okAll_iff];intro j hj;rw [zgn E R _ 0 j (by rw [zcx] at hj; exact hj) hj,List.getElem_replicate];have hs:=singular_bd (zef E (0 + j)); have hc:=always_bd (zef E (0 + j)); have hf:=fillN_bd (zef E (0 + j)) 0 (by omega) (by omega);have hl:(zef E (0 + j)).length = E.length:=by simp [zef]
 refine ⟨rfl,⟨hs.1,?_⟩,⟨?_,?_⟩,hc,hf⟩
 ·show zbx _≤64; omega
 ·show 0≤zgw _ _ _; rw [hits_nil]; omega
 ·show zgw _ _ _≤64; rw [hits_nil]; omega
theorem field_valid {s:SchemaL} {p:ParL} {k:Int × Int} {A:List (List UInt8)} {i:Nat} (hp:ParOk p) (hf:(zbm s i).2 = 0) (hn:zaq s i (A.getD i []) = true):zap (zdh s p k A i) = decide (A.getD i []≠[]):=by
 have h1:=fieldN_len (k:=k) hp hf hn
 rcases fieldN_in (k:=k) hp hn hf with h2 | h2
 ·rw [h2] at h1 ⊢
  have h3:A.getD i [] = []:=h1.1 rfl;rw [zgj];exact (decide_eq_false (fun h=>h h3)).symm
 ·rw [h2.1]
  have h3:=(zcs h2.1).1;have h4:A.getD i []≠[]:=fun e=>by have:=h1.2 e; omega
  exact (decide_eq_true h4).symm
theorem enc_field {s:SchemaL} {P:List ParL} {k:Int × Int} {r:RecL} {i:Nat} (h:i < P.length):(zen s P k r).fields.getD i zbg = zdh s (P.getD i default) k r.vals i:=getD_fields s P k r.vals P.length i h
theorem colN_get {s:SchemaL} {P:List ParL} {k:Int × Int} {R:List RecL} {i j:Nat} (h:i < P.length) (hj:j < R.length) (h2:j < (zef (R.map (zen s P k)) i).length):(zef (R.map (zen s P k)) i)[j] = zdh s (P.getD i default) k R[j].vals i:=by
 have e:zef (R.map (zen s P k)) i = R.map (fun r=>(zen s P k r).fields.getD i zbg):=by unfold zef; rw [List.map_map]; rfl
 rw [List.getElem_of_eq e,List.getElem_map];exact enc_field h
theorem col_alike {s:SchemaL} {P:List ParL} {a b:Int × Int} {R:List RecL} {i:Nat} (hi:i < P.length) (hR:∀ r∈R,RecIn s P r)
  (h:∀ j k,(hj:j < R.length)→(hk:k < j)→(zg1 ((zef (R.map (zen s P a)) i).getD j zbg) ((zef (R.map (zen s P a)) i).getD k zbg) = 0 ↔ zg1 ((zef (R.map (zen s P b)) i).getD j zbg) ((zef (R.map (zen s P b)) i).getD k zbg) = 0)) :
  Alike (zef (R.map (zen s P a)) i) (zef (R.map (zen s P b)) i):=by
 have hl:∀ k,(zef (R.map (zen s P k)) i).length = R.length:=fun k=>by simp [zef]
 refine ⟨by rw [hl,hl],fun j h1 h2=>?_,fun j k h1 h2 h3 h4 hk=>?_⟩
 ·have hj:j < R.length:=by rw [hl] at h1; exact h1
  rw [colN_get hi hj,colN_get hi hj];have hr:=hR _ (List.getElem_mem hj);obtain ⟨h0,_,hlv,hno⟩:=zgp hr.rec_;have hif:i < s.fields.length:=by rw [← hr.len]; exact hi
  have hil:i < R[j].vals.length:=by rw [hlv]; exact hif
  have hn:=zhf s R[j].vals 0 hno i hil;rw [Nat.zero_add] at hn;have hf:(zbm s i).2 = 0:=by rw [zjd h0 hif]
  rw [field_valid (hr.pars.1 i hi) hf hn,field_valid (hr.pars.1 i hi) hf hn]
 ·have hj:j < R.length:=by rw [hl] at h1; exact h1
  have:=h j k hj hk;rw [za5 _ _ h1,za5 _ _ h3,za5 _ _ h2,za5 _ _ h4] at this;constructor
  ·intro e; exact zh1 (this.1 (zh1 e))
  ·intro e; exact zh1 (this.2 (zh1 e))
theorem expo_keys {s:SchemaL} {P:List ParL} {a b:Int × Int} {R:List RecL} {i:Nat} (h:Alike (zef (R.map (zen s P a)) i) (zef (R.map (zen s P b)) i)) (D:List zdl) :
  (zft (R.map (zen s P a)) R i D).u = (zft (R.map (zen s P b)) R i D).u∧(zft (R.map (zen s P a)) R i D).h = (zft (R.map (zen s P b)) R i D).h:=by
 have hm:=alike_mem h;refine ⟨singular_mem hm,?_⟩;show zgw _ _ _ = zgw _ _ _;rw [sizesG_mem hm,hits_mem hm]
end
section
open Go.RowKit
end
section
open Go.RowKit
structure SV where
 a:Option Addr
 n:Nat
 c:Nat
abbrev encSV (x:SV):List Value:=[.slice x.a x.n x.c]
end
section
open Go.RowKit
variable {α:Type}
abbrev svV (x:SV):Value:=.slice x.a x.n x.c
def SlsAll (k:Nat) (enc:α→List Value) (w:World) (S:Nat→Prop) (C:List SV) (L:List (List α)):Prop:=C.length = L.length∧∀ n (h1:n < C.length) (h2:n < L.length),Vec w S k enc (svV C[n]) L[n]
def SlsVec (k:Nat) (enc:α→List Value) (w:World) (S:Nat→Prop) (v:Value) (L:List (List α)):Prop:=∃ C,Vec w S 1 encSV v C∧SlsAll k enc w S C L
theorem one_encSL:∀ x:SV,∀ u∈encSV x,u.oneCell' = true:=by intro x u hu; simp at hu; subst hu; rfl
theorem SlsAll.move {k:Nat} {enc:α→List Value} {w w':World} {S T:Nat→Prop} {C:List SV} {L:List (List α)} (h:SlsAll k enc w S C L) (hz:w.heap.size≤w'.heap.size) (hS:∀ x,x < w.heap.size→S x→w'.heap[x]? = w.heap[x]?∧T x):SlsAll k enc w' T C L :=
 ⟨h.1,fun n h1 h2=>(h.2 n h1 h2).move hz hS⟩
theorem SlsAll.snoc {k:Nat} {enc:α→List Value} {w:World} {S:Nat→Prop} {C:List SV} {L:List (List α)} {c:SV} {l:List α} (h:SlsAll k enc w S C L) (hc:Vec w S k enc (svV c) l):SlsAll k enc w S (C ++ [c]) (L ++ [l]):=by
 refine ⟨by simp [h.1],fun n h1 h2=>?_⟩
 by_cases hn:n < C.length
 ·rw [List.getElem_append_left hn,List.getElem_append_left (by rw [← h.1]; exact hn)]; exact h.2 n _ _
 ·have:n = C.length:=by simp at h1; omega
  subst this;rw [List.getElem_append_right xnl,List.getElem_append_right (by rw [h.1]; exact Nat.le_refl _)];simpa [h.1] using hc
theorem SlsVec.slice {k:Nat} {enc:α→List Value} {w:World} {S:Nat→Prop} {v:Value} {L:List (List α)} (h:SlsVec k enc w S v L):∃ a cap,v = .slice a L.length cap:=by
 obtain ⟨C,hC,hA⟩:=h;obtain ⟨a,cap,rfl⟩:=hC.slice;exact ⟨a,cap,by rw [hA.1]⟩
theorem SlsVec.move {k:Nat} {enc:α→List Value} {w w':World} {S T:Nat→Prop} {v:Value} {L:List (List α)} (h:SlsVec k enc w S v L) (hz:w.heap.size≤w'.heap.size) (hS:∀ x,x < w.heap.size→S x→w'.heap[x]? = w.heap[x]?∧T x):SlsVec k enc w' T v L:=by
 obtain ⟨C,hC,hA⟩:=h;exact ⟨C,hC.move hz hS,hA.move hz hS⟩
theorem SlsVec.below {k:Nat} {enc:α→List Value} {w w':World} {S:Nat→Prop} {v:Value} {L:List (List α)} (h:SlsVec k enc w S v L) (hb:Below w.heap.size w w'):SlsVec k enc w' S v L :=
 h.move hb.size fun x hx hs=>⟨hb.block x hx,hs⟩
theorem SlsVec.at {k:Nat} {enc:α→List Value} {w:World} {S:Nat→Prop} {a:Option Addr} {n cap:Nat} {L:List (List α)} (h:SlsVec k enc w S (.slice a n cap) L) (j:Nat) (hj:j < L.length) :
  ∃ (b off:Nat) (c:SV),a = some ⟨b,off,none⟩∧b < w.heap.size∧w.cell? ⟨b,off + j,none⟩ = some (.slice c.a c.n c.c)∧Vec w S k enc (.slice c.a c.n c.c) L[j]:=by
 obtain ⟨C,hC,hA⟩:=h;have hj2:j < C.length:=by rw [hA.1]; exact hj
 obtain ⟨b,off,e,hb,hc⟩:=hC.get j hj2;exact ⟨b,off,C[j],e,hb,by have:=hc 0 _ rfl; simpa using this,hA.2 j hj2 hj⟩
theorem SlsVec.weaken {k:Nat} {enc:α→List Value} {w:World} {S T:Nat→Prop} {v:Value} {L:List (List α)} (h:SlsVec k enc w S v L) (hS:∀ x,x < w.heap.size→S x→T x):SlsVec k enc w T v L:=h.move xnl fun x hx hs=>⟨rfl,hS x hx hs⟩
end
section
open Go.RowKit
section
variable {α:Type} {P:Program} {w:World} {o:Oper} {a:Act} {K:Act→World→Prop} {Q:Exit→Act→World→Prop}
theorem zdm (s x:Operand) (t:TypeId) (ho:o.op = .call { callee:=.builtin .append,args:=#[s,x],argTypes:=#[t,t] })
  (e:TypeId) (z:Value) (size bytes:Nat) (enc:α→List Value) (hk:∀ x,(enc x).length = size) (h1:∀ x,∀ u∈enc x,u.oneCell' = true) (ht:P.underlying t = some (.slice e)) (hinfo:(P.info? e).map (fun i=>(i.zero,i.size,i.bytes)) = some (some z,size,bytes))
  (hzs:z.cells.size = size) (hsz:0 < size) (hby:bytes≤128) {w0:World} {v u:Value} {A B:List α} (hs:a.eval s = v) (hown:OwnV e size enc w0 v A w) (hx:a.eval x = u) (hr:zcn w size u B.length (B.flatMap enc)) (hn:A.length + B.length≤1000000000)
  (h:∀ v' w',OwnV e size enc w0 v' (A ++ B) w'→(∀ k o,some k≠v.ownBlock→w.heap[k]? = some o→w'.heap[k]? = some o)→w.heap.size≤w'.heap.size→(v'.ownBlock = none∨v.ownBlock = v'.ownBlock∨v'.ownBlock = some w.heap.size)→K (a.put o.dst v') w'):Oper.wp P o a w K Q:=by
 refine zdf s x t ho w0.heap.size e z size bytes ht hinfo hzs hsz v A.length (A.flatMap enc) hs hown.1 u B.length (B.flatMap enc) hx hr (fun u hu=>?_) (by unfold maxLen; omega) ?_ hown.2.size ?_
 ·obtain ⟨y,_,hy⟩:=List.mem_flatMap.1 hu
  exact h1 y u hy
 ·exact Nat.le_trans (Nat.mul_le_mul hn hby) (by decide)
 ·intro v' w' ho' hg hat
  refine h v' w' ⟨by rw [List.length_append,List.flatMap_append]; exact ho',hown.2.grown hg hown.2.size fun k hk=>?_⟩ (fun k o hk hko=>(hg.block k (zaa hko) hk).trans hko) hg.size hat
  rcases hown.1.2 with ⟨rfl,_⟩ | ⟨g,cap,cur,rfl,hg1,_⟩
  ·simp [Value.ownBlock] at hk
  ·have:g = k:=by simpa [Value.ownBlock] using hk
   omega
end
structure TwoOwn {α β:Type} (e f size size2:Nat) (enc:α→List Value) (enc2:β→List Value) (w0:World) (u v:Value) (A:List α) (B:List β) (w:World):Prop where
 one:OwnV e size enc w0 u A w
 two:OwnV f size2 enc2 w0 v B w
 off:u.ownBlock = none∨u.ownBlock≠v.ownBlock
section
variable {α β:Type} {e f size size2:Nat} {enc:α→List Value} {enc2:β→List Value} {w0:World} {u v:Value} {A:List α} {B:List β} {w:World}
theorem TwoOwn.nil (hb:Below w0.heap.size w0 w):TwoOwn e f size size2 enc enc2 w0 (.slice none 0 0) (.slice none 0 0) ([]:List α) ([]:List β) w:=⟨OwnV.nil hb,OwnV.nil hb,.inl rfl⟩
theorem TwoOwn.below {w':World} (h:TwoOwn e f size size2 enc enc2 w0 u v A B w) (hb:Below w.heap.size w w'):TwoOwn e f size size2 enc enc2 w0 u v A B w':=⟨h.one.below hb,h.two.below hb,h.off⟩
theorem OwnV.keptV {w':World} (h:OwnV e size enc w0 u A w) (hb:Below w0.heap.size w0 w') {r:Option Nat} (hk:∀ k o,some k≠r→w.heap[k]? = some o→w'.heap[k]? = some o) (hr:u.ownBlock = none∨u.ownBlock≠r):OwnV e size enc w0 u A w':=⟨zc7 h.1 hk hr,hb⟩
theorem TwoOwn.put1 {u':Value} {A':List α} {w':World} (h:TwoOwn e f size size2 enc enc2 w0 u v A B w) (ho:OwnV e size enc w0 u' A' w') (hk:∀ k o,some k≠u.ownBlock→w.heap[k]? = some o→w'.heap[k]? = some o) (hat:u'.ownBlock = none∨u.ownBlock = u'.ownBlock∨u'.ownBlock = some w.heap.size):TwoOwn e f size size2 enc enc2 w0 u' v A' B w':=by
 refine ⟨ho,h.two.keptV ho.2 hk ?_,?_⟩
 ·rcases h.off with h1 | h1
  ·by_cases h2:v.ownBlock = none
   ·exact .inl h2
   ·exact .inr (by rw [h1]; exact h2)
  ·exact .inr (Ne.symm h1)
 ·rcases hat with h1 | h1 | h1
  ·exact .inl h1
  ·rw [← h1]; exact h.off
  ·right
   intro e2;have:=(h.two.1.lt _ (by rw [← e2]; exact h1)).2;omega
theorem TwoOwn.put2 {v':Value} {B':List β} {w':World} (h:TwoOwn e f size size2 enc enc2 w0 u v A B w) (ho:OwnV f size2 enc2 w0 v' B' w') (hk:∀ k o,some k≠v.ownBlock→w.heap[k]? = some o→w'.heap[k]? = some o) (hat:v'.ownBlock = none∨v.ownBlock = v'.ownBlock∨v'.ownBlock = some w.heap.size):TwoOwn e f size size2 enc enc2 w0 u v' A B' w':=by
 refine ⟨h.one.keptV ho.2 hk h.off,ho,?_⟩
 rcases hat with h1 | h1 | h1
 ·by_cases h2:u.ownBlock = none
  ·exact .inl h2
  ·exact .inr (by rw [h1]; exact h2)
 ·rw [← h1]; exact h.off
 ·right
  intro e2;have:=(h.one.1.lt _ (by rw [e2]; exact h1)).2;omega
end
end
section
open Go.RowKit Cal
theorem one_encS1:∀ x:List UInt8,∀ u∈zba x,u.oneCell' = true:=by intro x u hu; simp at hu; subst hu; rfl
def AssessPost (p:List Ex × Int) (w:World) (e:Ending) (w':World):Prop:=∃ v,e = .returned (.tuple #[v,.int .i64 p.2])∧ExRow w' (fun x=>w.heap.size≤x) v p.1∧Below w.heap.size w w'
theorem BitsAll.move4 {w':World} {C:List BV} {L:List BitsL} {w0:World} (h:BitsAll w0 (fun b=>b < w0.heap.size) C L) (hb:Below w0.heap.size w0 w'):BitsAll w' (fun b=>b < w0.heap.size) C L:=h.move hb.size fun b hb' hs=>⟨hb.block b hb',hs⟩
theorem zjg (w:World) (S:Nat→Prop):ExRow w S (.slice none 0 0) []:=⟨none,0,rfl,rfl,fun h=>absurd h (Nat.lt_irrefl 0)⟩
theorem zd5 (E:List EncL) (f:Nat):(zef E f).length = E.length:=by simp [zef]
theorem zir (R:List RecL) (f:Nat):(zg8 R f).length = R.length:=by simp [zg8]
theorem col_next {E:List EncL} {f j:Nat} (h:j < E.length):(zef E f).take (j + 1) = (zef E f).take j ++ [E[j].fields.getD f zbg]:=by
 rw [List.take_succ_eq_append_getElem (by rw [zd5]; exact h)]; simp [zef]
theorem vals_next {R:List RecL} {f j:Nat} (h:j < R.length):(zg8 R f).take (j + 1) = (zg8 R f).take j ++ [R[j].vals.getD f []]:=by
 rw [List.take_succ_eq_append_getElem (by rw [zir]; exact h)]; simp [zg8]
theorem col_in {s:SchemaL} {P:List ParL} {k:Int × Int} {R:List RecL} (hR:∀ r∈R,RecIn s P r) (f:Nat):∀ b∈zef (R.map (zen s P k)) f,BitsIn b:=by
 intro b hb;unfold zef at hb;rw [List.map_map] at hb;obtain ⟨r,hr,rfl⟩:=List.mem_map.1 hb;by_cases hf:f < P.length
 ·have h:=fieldsN_in (k:=k) (hR r hr)
  have h2:(zen s P k r).fields.getD f zbg∈zci s P k r.vals P.length:=by
   have hl:f < (zci s P k r.vals P.length).length:=by rw [zfr]; exact hf
   show (zci s P k r.vals P.length).getD f zbg∈_;rw [za5 _ _ hl]; exact List.getElem_mem hl
  exact h _ h2
 ·left
  show (zci s P k r.vals P.length).getD f zbg = zbg;rw [List.getD,List.getElem?_eq_none (by rw [zfr]; omega)]; rfl
theorem bitsIn_I {b:BitsL} (h:BitsIn b):InI b.len:=(bitsIn_hex h).1
theorem bitsIn_U {b:BitsL} (h:BitsIn b):zap b = true→zg4 b.words:=by
 intro hv
 rcases h with rfl | h
 ·rw [zgj] at hv; cases hv
 ·exact h.2
theorem dictErr_app (A:List (List zdl)) (D:List zdl) (L:List (List zdl)) (h:zdx A = 0):zdx (A ++ D :: L) = zdx (D :: L):=by
 induction A with
 | nil=>rfl
 | cons X A ih =>
  have hx:zcg X = 0:=zij h X List.mem_cons_self;have h2:zdx A = 0:=zga fun Y hY=>zij h Y (List.mem_cons_of_mem _ hY)
  rw [List.cons_append];show (if zcg X = 0 then zdx (A ++ D :: L) else zcg X) = _;rw [if_pos hx,ih h2]
theorem zim (S T U:Nat→Prop) (vf vt vn vs rv dv:Value) (s:SchemaL) (P:List ParL) (pv:Value) (k:Int × Int) (R:List RecL) (Ds:List (List zdl)) (w:World) (h:SchemaAt w S vf vt vn vs s) (hp:Vec w zav 3 zdi pv P) (hr:RecsVec w T rv R) (hd:SlsVec 2 zgz w U dv Ds) (hi:∀ p∈P,InI p.len) (hn:P.length≤1000000)
  (hs:∀ r∈R,∀ x∈r.vals,x.length≤1000000) (hm:∀ r∈R,r.vals.length≤1000000) (hR:R.length≤1000000) (hD:Ds.length≤1000000) (hDn:∀ D∈Ds,D.length≤1000000) :
  Calls prog 14 #[.agg #[vf,vt,vn,vs],pv,.agg #[.int .u64 k.1,.int .u64 k.2],rv,dv] w (AssessPost (zdq s P k R Ds) w):=by
 obtain ⟨pa,pc,rfl⟩:=hp.slice;obtain ⟨ar,cr,rfl⟩:=hr.slice;obtain ⟨da,dc,rfl⟩:=hd.slice;obtain ⟨af,cf,rfl⟩:=h.1.slice;have HS0:=zjp h.any; have HP:=zjp hp; have HR:=zjp hr.any; have HI:=zjp hi; have HSh:=zjp hs; have HM:=zjp hm;have HD:=zjp (hd.weaken (T:=zav) fun _ _ _=>trivial); have HDn:=zjp hDn
 obtain ⟨Z,hZ⟩:∃ Z,zdq s P k R Ds = Z:=⟨_,rfl⟩;have HEA:=fun (W:World) (hb:Below w.heap.size w W)=>eall_any zav zav _ _ _ _ _ s P _ k R W (h.any.below hb) (hp.below hb) (hr.any.below hb) hi hn hs hm hR
 obtain ⟨ce,hce⟩:∃ c,zby s P = c:=⟨_,rfl⟩;obtain ⟨cal,hcal⟩:∃ c,allN s R = c:=⟨_,rfl⟩;have hin:ce = 0→cal = 0→∀ r∈R,RecIn s P r:=fun h1 h2 r hr=>zi0 (by rw [hce]; exact h1) ((ziq (by rw [hcal]; exact h2)).2.2 r hr)
 have hlim:cal = 0→R.length≤64:=fun h2=>(ziq (by rw [hcal]; exact h2)).2.1
 have hE1:ce = 0→cal = 0→zg6 s P k R = (R.map (zen s P k),0):=fun h1 h2=>by unfold zg6; rw [if_pos (by rw [hce]; exact h1),if_pos (by rw [hcal]; exact h2)]
 rw [hZ];have HZ:=zjp hZ; have HCe:=zjp hce; have HCa:=zjp hcal; have HIn:=zjp hin; have HLim:=zjp hlim; have HE1:=zjp hE1; have HEAll:=zjp HEA;obtain ⟨nR,hnR⟩:∃ n,R.length = n:=⟨_,rfl⟩;obtain ⟨nP,hnP⟩:∃ n,P.length = n:=⟨_,rfl⟩;obtain ⟨nD,hnD⟩:∃ n,Ds.length = n:=⟨_,rfl⟩;obtain ⟨nF,hnF⟩:∃ n,s.fields.length = n:=⟨_,rfl⟩;have HNR:=zjp hnR; have HNP:=zjp hnP; have HND:=zjp hnD; have HNF:=zjp hnF;rw [hnR] at HEAll hR ⊢; rw [hnP] at HEAll hn ⊢; rw [hnD] at hD ⊢; rw [hnF] at HEAll ⊢;clear h hp hr hd hi hs hm hZ hce hcal hin hlim hE1 HEA hDn hnR hnP hnD hnF;go_enter func14,ntmps14
 go_wp2_with fail
 refine zai (fun W hW=>?_)
 have hb0:=xam hW
 have hs0:W.heap[w.heap.size]? = some (.cells #[.slice af nF cf,vt,vn,vs] 33 (0,0)):=by rw [hW]; exact zaf (zac rfl)
 have hk0:W.heap[w.heap.size + 1]? = some (.cells #[.int .u64 k.1,.int .u64 k.2] 41 (0,0)):=by rw [hW]; exact zac (by simp)
 clear hW;have hck:=echeck_any zav _ _ _ _ s P _ W (HS0.out.below hb0) (HP.out.below hb0) HI.out (by rw [HNP.out]; exact hn);rw [HCe.out,HNP.out,HNF.out] at hck;refine hck.mono ?_;rintro e w1 ⟨rfl,hb⟩;have HB1:=zjp (hb0.trans (hb.mono hb0.size)); have X1:=zjp (zab hb (zaa hs0) hs0); have Y1:=zjp (zab hb (zaa hk0) hk0);clear hb hb0 hs0 hk0 hck;obtain ⟨s0,s1,s2,s3⟩:=zak X1.out; have lx:=zaa X1.out;by_cases hc0:ce = 0;rotate_left
 ·have d0:(ce != 0) = true:=by simpa using hc0
  have hZ2:Z = ([],ce):=by rw [← HZ.out]; unfold zdq; rw [if_neg (by rw [HCe.out]; exact hc0),HCe.out]
  have HZ2:=zjp hZ2;clear hZ2 hc0;go_wp2_with fail
  go_ret2;rw [HZ2.out];exact ⟨_,rfl,zjg _ _,HB1.out⟩
 have d0:(ce != 0) = false:=by simpa using hc0
 have HC0:=zjp hc0;clear hc0;go_wp2_with fail
 have hra:=rall_any zav zav _ _ _ _ _ s R w1 (HS0.out.below HB1.out) (HR.out.below HB1.out) HSh.out HM.out (by rw [HNR.out]; exact hR);rw [HCa.out,HNR.out,HNF.out] at hra;refine hra.mono ?_;rintro e w2 ⟨rfl,hb⟩;have HB2:=zjp (HB1.out.trans (hb.mono HB1.out.size)); have X2:=zjp (zab hb lx X1.out); have Y2:=zjp (zab hb (zaa Y1.out) Y1.out);clear hb hra s0 s1 s2 s3 lx;obtain ⟨s0,s1,s2,s3⟩:=zak X2.out; have lx:=zaa X2.out;obtain ⟨k0,k1⟩:=zae Y2.out; have ly:=zaa Y2.out;by_cases hc1:cal = 0;rotate_left
 ·have d1:(cal != 0) = true:=by simpa using hc1
  have hZ2:Z = ([],cal):=by rw [← HZ.out]; unfold zdq; rw [if_pos (by rw [HCe.out]; exact HC0.out),if_neg (by rw [HCa.out]; exact hc1),HCa.out]
  have HZ2:=zjp hZ2;clear hZ2 hc1;go_wp2_with fail
  go_ret2;rw [HZ2.out];exact ⟨_,rfl,zjg _ _,HB2.out⟩
 have d1:(cal != 0) = false:=by simpa using hc1
 have HC1:=zjp hc1;have hR64:=HLim.out hc1;rw [HNR.out] at hR64;clear hc1;by_cases hc2:nD = nF;rotate_left
 ·have d2:((nD:Int) != (nF:Int)) = true:=by simp; omega
  have hZ2:Z = ([],8):=by rw [← HZ.out]; unfold zdq; rw [if_pos (by rw [HCe.out]; exact HC0.out),if_pos (by rw [HCa.out]; exact HC1.out),if_neg (by rw [HND.out,HNF.out]; exact hc2)]
  have HZ2:=zjp hZ2;clear hZ2 hc2;go_wp2_with fail
  go_ret2;rw [HZ2.out];exact ⟨_,rfl,zjg _ _,HB2.out⟩
 have d2:((nD:Int) != (nF:Int)) = false:=by simp; omega
 have HC2:=zjp hc2;have HEn:=zjp (HE1.out HC0.out HC1.out);have HRi:=zjp (HIn.out HC0.out HC1.out);clear hc2;go_wp2_with fail
 refine (HEAll.out _ HB2.out).mono ?_;rw [HEn.out];rintro e w3 ⟨ev,rfl,hev,hb3⟩;obtain ⟨E,hE⟩:∃ E,R.map (zen s P k) = E:=⟨_,rfl⟩;have hEl:E.length = nR:=by rw [← hE,List.length_map]; exact HNR.out
 dsimp only at hev ⊢;rw [hE] at hev;obtain ⟨ea,ec,rfl⟩:=hev.slice;rw [hEl] at hev ⊢;have HEl:=zjp hEl; have HE:=zjp hE;have HEv:=zjp hev;have HB3:=zjp (HB2.out.trans (hb3.mono HB2.out.size));clear hev hb3 hEl hE s0 s1 s2 s3 lx k0 k1 ly;have dz:((0:Int) != 0) = false:=rfl;go_wp2_with fail
 go_loopw [16,56] (fun o t wr=>∃ f:Nat,t = .int .i64 f∧f≤nD∧OwnV 61 5 Ex.cells w3 o (zd0 E R 0 (Ds.take f)) wr∧Hid (zdx (Ds.take f) = 0)) (fun _ t _=>nD - (intOf t).toNat)
 case atStart=>exact ⟨0,rfl,by omega,OwnV.nil (Below.refl _ _),zjp rfl⟩
 case round =>
  obtain ⟨f,rfl,hf,ho,HDe⟩:=hrel;obtain ⟨W2,hW2⟩:∃ u,u = wr:=⟨_,rfl⟩;subst hW2;have HO:=zjp ho;have HB3W:=zjp (HB3.out.trans (ho.2.mono HB3.out.size));obtain ⟨oa,oc,eo⟩:=zau ho.1;have hol:(zd0 E R 0 (Ds.take f)).length = f:=by rw [zcx,List.length_take,HND.out]; omega
  rw [hol] at eo;subst eo;have HOl:=zjp hol;clear hol;by_cases hlt:f < nD
  ·have hq:decide ((f:Int) < (nD:Int)) = true:=by simp; omega
   have hfi:(f:Int) < (nD:Int):=by omega
   have hfD:f < Ds.length:=by rw [HND.out]; exact hlt
   obtain ⟨db,doff,⟨xa,xn,xc⟩,e,ldb,dc0,hdv⟩:=(HD.out.below HB3W.out).at f hfD;cases e;dsimp only at dc0 hdv;have hDl:=HDn.out _ (List.getElem_mem hfD);have htk:Ds.take (f + 1) = Ds.take f ++ [Ds[f]]:=List.take_succ_eq_append_getElem hfD;have hdrop:Ds = Ds.take f ++ Ds[f] :: Ds.drop (f + 1):=by rw [← List.drop_eq_getElem_cons hfD,List.take_append_drop]
   obtain ⟨D,hDf⟩:∃ D,Ds[f] = D:=⟨_,rfl⟩;rw [hDf] at hdv hDl htk hdrop;have HDv:=zjp hdv; have HTk:=zjp htk; have HDrop:=zjp hdrop;have hxn:=hdv.len.1;subst hxn;clear hdv htk hdrop hDf ho;go_wp2_with fail
   go_loopw [19,20,21,63] (fun c v _ t wr=>∃ (j:Nat) (CB:List BV),t = .int .i64 j∧j≤nR∧CB.length = j∧TwoOwn 56 9 2 1 za3 zba W2 c v CB ((zg8 R f).take j) wr∧BitsAll W2 (fun b=>b < W2.heap.size) CB ((zef E f).take j)) (fun _ _ _ t _=>nR - (intOf t).toNat)
   case atStart=>exact ⟨0,[],rfl,by omega,rfl,by simpa using TwoOwn.nil (Below.refl _ _),rfl,fun n h1 _=>by simp at h1⟩
   case round =>
    obtain ⟨j,CB,rfl,hj,hCl,ht,hba⟩:=hrel;obtain ⟨WR0,hWR0⟩:∃ u,u = wr:=⟨_,rfl⟩;subst hWR0;obtain ⟨ca,cc,ec2⟩:=zau ht.one.1;obtain ⟨va,vc,ev2⟩:=zau ht.two.1;have hvl:((zg8 R f).take j).length = j:=by rw [List.length_take,zir,HNR.out]; omega
    rw [hCl] at ec2;rw [hvl] at ev2;subst ec2;subst ev2;have HCl:=zjp hCl; have HVl:=zjp hvl; have HT:=zjp ht; have HBA:=zjp hba;clear hCl hvl hba;by_cases hlj:j < nR
    ·have hqj:decide ((j:Int) < (nR:Int)) = true:=by simp; omega
     have hji:(j:Int) < (nR:Int):=by omega
     have hjE:j < E.length:=by rw [HEl.out]; exact hlj
     have hjR:j < R.length:=by rw [HNR.out]; exact hlj
     obtain ⟨eb,eoff,⟨eid,ever,fa,fn,fc⟩,e,leb,⟨e0,e1,e2⟩,hval⟩:=((HEv.out.below HO.out.2).at j hjE);cases e;dsimp only at e0 e1 e2;obtain ⟨sx,es,hbv⟩:=hval;obtain ⟨va2,ca2,rfl⟩:=hbv.slice;have es2:eid = E[j].id∧ever = E[j].ver∧(fa = va2∧fn = E[j].fields.length∧fc = ca2):=by simpa [eq_comm] using es
     obtain ⟨-,-,rfl,hfn,rfl⟩:=es2
     have hEf:E[j].fields.length = nF:=by
      have h1:E[j] = zen s P k R[j]:=by have:=HE.out; subst this; simp
      rw [h1];show (zci s P k R[j].vals P.length).length = nF;rw [zfr,(HRi.out _ (List.getElem_mem hjR)).len,HNF.out]
     have hff:f < E[j].fields.length:=by rw [hEf,← HC2.out]; exact hlt
     obtain ⟨bb,boff,⟨zl,za,zn,zc⟩,e,lbb,z0,z1,hat⟩:=hbv.at f hff;cases e;dsimp only at z0 z1;have htc:=col_next (E:=E) (f:=f) hjE;have htv:=vals_next (R:=R) (f:=f) hjR
     have hvl2:R[j].vals.length = nF:=by
      have:=(zgp (HRi.out _ (List.getElem_mem hjR)).rec_).2.2.1;rw [this,HNF.out]
     obtain ⟨rb,roff,rid,rver,raa,rnn,rcc,rvals,e,lrb,r0,r1,r2,hRk,hrv⟩:=(HR.out.below HB3W.out).at j hjR;cases e;rw [hRk] at htv hvl2;dsimp only at htv hvl2;have hrn:=hrv.len.1;have hfv:f < rvals.length:=by rw [hvl2,← HC2.out]; exact hlt
     obtain ⟨sb,soff,e,lsb,hsc⟩:=hrv.get f hfv;have sc0:=hsc 0 _ rfl;rw [Nat.mul_one,Nat.add_zero] at sc0;rw [← za5 rvals [] hfv] at sc0;obtain ⟨sv,hsv⟩:∃ sv,rvals.getD f [] = sv:=⟨_,rfl⟩;obtain ⟨bz,hbz⟩:∃ bz,E[j].fields.getD f zbg = bz:=⟨_,rfl⟩;rw [hsv] at sc0 htv;rw [hbz] at hat htc
     have HAt:=zjp (show BitsAt W2 (fun b=>b < W2.heap.size) (.agg (za3 ⟨zl,za,zn,zc⟩).toArray) bz from by
      obtain ⟨s',e',hv'⟩:=hat
      exact ⟨s',e',hv'.move xnl fun q hq _=>⟨rfl,hq⟩⟩)
     have HTc:=zjp htc; have HTv:=zjp htv;subst e;rw [hfn,hEf] at e2;rw [hrn,hvl2] at r2;have hfF:(f:Int) < (nF:Int):=by have:=HC2.out; omega
     have hbT:=ht.one.2;have r2':=(hbT.cell (p:=⟨rb,roff + j * 3 + 2,none⟩) lrb).trans r2;have sc0':=(hbT.cell (p:=⟨sb,soff + f,none⟩) lsb).trans sc0;have e0':=(hbT.cell (p:=⟨eb,eoff + j * 3,none⟩) leb).trans e0;have e1':=(hbT.cell (p:=⟨eb,eoff + j * 3 + 1,none⟩) leb).trans e1;have e2':=(hbT.cell (p:=⟨eb,eoff + j * 3 + 2,none⟩) leb).trans e2;have z0':=(hbT.cell (p:=⟨bb,boff + f * 2,none⟩) lbb).trans z0;have z1':=(hbT.cell (p:=⟨bb,boff + f * 2 + 1,none⟩) lbb).trans z1;clear htc htv hsv hbz hat hrv hsc hRk hbv es hvl2 hfn hEf hff hrn hfv ht;go_wp2_with fail
     refine zam (fun WR hWR=>?_)
     have bW:=xal hWR
     have x0:WR.heap[WR0.heap.size]? = some (.cells #[.int .i64 eid,.int .i64 ever,.slice (some ⟨bb,boff,none⟩) nF fc] 59 (0,0)):=by rw [hWR]; exact zac rfl
     have T0:=zjp (HT.out.below bW);have HB0:=zjp T0.out.one.2;obtain ⟨xb,hxb⟩:∃ xb,WR0.heap.size = xb:=⟨_,rfl⟩;have HXn:=zjp (show (∀ g,(Value.slice ca j cc).ownBlock = some g→g < xb)∧(∀ g,(Value.slice va j vc).ownBlock = some g→g < xb) from ⟨fun g e=>by rw [← hxb]; exact (HT.out.one.1.lt g e).2,fun g e=>by rw [← hxb]; exact (HT.out.two.1.lt g e).2⟩)
     rw [hxb] at x0 ⊢;have HS:=zjp (show ∀ W',Below W2.heap.size W2 W'→W'.heap[xb]? = some (.cells #[.int .i64 eid,.int .i64 ever,.slice (some ⟨bb,boff,none⟩) nF fc] 59 (0,0))→W'.cell? ⟨xb,2,none⟩ = some (.slice (some ⟨bb,boff,none⟩) nF fc)∧W'.cell? ⟨rb,roff + j * 3 + 2,none⟩ = some (.slice (some ⟨sb,soff,none⟩) nF rcc)∧W'.cell? ⟨sb,soff + f,none⟩ = some (zal sv)∧W'.cell? ⟨bb,boff + f * 2,none⟩ = some (.int .i64 zl)∧W'.cell? ⟨bb,boff + f * 2 + 1,none⟩ = some (.slice za zn zc) from fun W' hb hx=>⟨(zao hx).2.2,(hb.cell (p:=⟨rb,roff + j * 3 + 2,none⟩) lrb).trans r2,(hb.cell (p:=⟨sb,soff + f,none⟩) lsb).trans sc0,(hb.cell (p:=⟨bb,boff + f * 2,none⟩) lbb).trans z0,(hb.cell (p:=⟨bb,boff + f * 2 + 1,none⟩) lbb).trans z1⟩)
     have lx0:=zaa x0;clear hWR bW r2' sc0' e0' e1' e2' z0' z1' e0 e1 hbT hxb;obtain ⟨q2,q3,q4,q5,q6⟩:=HS.out WR HB0.out x0;refine wp_region_noPanic ?_
     refine wp_region_held_drew (S:=(fun w'=>w'.cell? ⟨xb,2,none⟩ = some (.slice (some ⟨bb,boff,none⟩) nF fc)∧w'.cell? ⟨rb,roff + j * 3 + 2,none⟩ = some (.slice (some ⟨sb,soff,none⟩) nF rcc)∧w'.cell? ⟨sb,soff + f,none⟩ = some (zal sv)∧w'.cell? ⟨bb,boff + f * 2,none⟩ = some (.int .i64 zl)∧w'.cell? ⟨bb,boff + f * 2 + 1,none⟩ = some (.slice za zn zc))) (by kernel_rfl) (⟨q2,q3,q4,q5,q6⟩) (fun hHeld=>?_)
     refine tH 0 (h:=?_);refine tH 1 (h:=?_);refine tH 2 (h:=?_);refine tH 3 (h:=?_);refine tH 4 (h:=?_);refine tH 5 (h:=?_);refine tH 8 (h:=?_);refine tH 9 (h:=?_);refine tH 10 (h:=?_);refine tH 11 (h:=?_);refine tH 12 (h:=?_);refine tH 13 (h:=?_);refine tH 14 (h:=?_);refine tH 15 (h:=?_);refine tH 16 (h:=?_);refine wpAnyH_ready (rs:=[6,17]) (by kernel_rfl) (by simp) ?_
     refine AllReadyH.cons rfl (fun K hK=>?_) (AllReadyH.cons rfl (fun K hK=>?_) (AllReadyH.nil))
     focus
      go_simp;have b1:Below WR.heap.size WR (WR.alloc (.cells #[.int .i64 zl,.slice za zn zc] 56)).drew:=((Below.refl _ _).alloc xnl _).drew;have x1:=zab b1 (zaa x0) x0
      refine hK.out _ _ (HS.out _ (HB0.out.trans (b1.mono HB0.out.size)) x1) (fun hHeld=>?_)
      clear hK K
      refine zbr (fun V1 hV=>?_)
      rw [← hV] at b1 x1;have g6:V1.heap[WR.heap.size]? = some (.cells #[.int .i64 zl,.slice za zn zc] 56 (0,0)):=by rw [hV]; exact zac rfl
      have T1:=zjp (T0.out.below b1);have HB1:=zjp (HB0.out.trans (b1.mono HB0.out.size));have z1:=b1.size;clear hV hHeld;have hHeld:=HS.out _ HB1.out x1;refine wpAnyH_ready (rs:=[7,17]) (by kernel_rfl) (by simp) ?_
      refine AllReadyH.cons rfl (fun K hK=>?_) (AllReadyH.cons rfl (fun K hK=>?_) (AllReadyH.nil))
      focus
       have HRd:=zjp (show zcn V1 2 (.slice (some ⟨WR.heap.size,0,none⟩) 1 1) [(⟨zl,za,zn,zc⟩:BV)].length ([(⟨zl,za,zn,zc⟩:BV)].flatMap za3) from za2 (xs:=[(⟨zl,za,zn,zc⟩:BV)].flatMap za3) (fr:=(0,0)) (t:=56) g6 rfl)
       refine zdm (.tmp 68) (.tmp 74) 57 (by rfl) 56 (.agg #[.int .i64 0,.slice none 0 0]) 2 32 za3 (fun _=>rfl) ze4 underlying57 zf6 rfl (by decide) (by decide) (w0:=W2) (v:=.slice ca j cc) (A:=CB) (B:=[⟨zl,za,zn,zc⟩]) (by rfl) T1.out.one (by rfl) HRd.out (by rw [HCl.out]; simp only [List.length_cons,List.length_nil]; omega) ?_
       intro u2 V2 ho2 hk2 hz2 hat2;have T2:=zjp (T1.out.put1 ho2 hk2 hat2);have x2:=hk2 _ _ (fun e=>by have h1:=HXn.out.1 _ e.symm; omega) x1
       have HB2:=zjp ho2.2;have z2:=hz2;clear ho2 hk2 hat2
       refine hK.out _ _ (HS.out _ HB2.out x2) (fun hHeld=>?_)
       clear hK K;refine wpAnyH_ready (rs:=[17]) (by kernel_rfl) (by simp) ?_
       refine AllReadyH.cons rfl (fun K hK=>?_) (AllReadyH.nil)
       go_simp;have b3:Below V2.heap.size V2 (V2.alloc (.cells #[zal sv] 9)):=((Below.refl _ _).alloc xnl _);have x3:=zab b3 (zaa x2) x2
       refine hK.out _ _ (HS.out _ (HB2.out.trans (b3.mono HB2.out.size)) x3) (fun hHeld=>?_)
       clear hK K
       refine zbr (fun V3 hV=>?_)
       rw [← hV] at b3 x3;have g17:V3.heap[V2.heap.size]? = some (.cells #[zal sv] 9 (0,0)):=by rw [hV]; exact zac rfl
       have T3:=zjp (T2.out.below b3);have HB3:=zjp (HB2.out.trans (b3.mono HB2.out.size));have z3:=b3.size;clear hV hHeld;have hHeld:=HS.out _ HB3.out x3;refine wpAnyH_ready (rs:=[18]) (by kernel_rfl) (by simp) ?_
       refine AllReadyH.cons rfl (fun K hK=>?_) (AllReadyH.nil)
       have HRd2:=zjp (show zcn V3 1 (.slice (some ⟨V2.heap.size,0,none⟩) 1 1) [sv].length ([sv].flatMap zba) from za2 (xs:=[sv].flatMap zba) (fr:=(0,0)) (t:=9) g17 rfl)
       refine zdm (.tmp 76) (.tmp 85) 28 (by rfl) 9 (.string ⟨#[]⟩) 1 16 zba (fun _=>rfl) one_encS1 underlying28 zdv rfl (by decide) (by decide) (w0:=W2) (v:=.slice va j vc) (A:=(zg8 R f).take j) (B:=[sv]) (by rfl) T3.out.two (by rfl) HRd2.out (by rw [HVl.out]; simp only [List.length_cons,List.length_nil]; omega) ?_
       intro v4 V4 ho4 hk4 hz4 hat4;have T4:=zjp (T3.out.put2 ho4 hk4 hat4);have x4:=hk4 _ _ (fun e=>by have h1:=HXn.out.2 _ e.symm; omega) x3
       have HB4:=zjp ho4.2;have z4:=hz4;clear ho4 hk4 hat4
       refine hK.out _ _ (HS.out _ HB4.out x4) (fun hHeld=>?_)
       clear hK K;refine tH 19 (h:=?_);refine tH 20 (h:=?_);refine wpAnyH_done (by kernel_rfl) ?_ _;refine NoPanic.normal ?_;go_wp2_with fail
       go_roundw
       case rel=>exact ⟨j + 1,CB ++ [⟨zl,za,zn,zc⟩],by go_num,by omega,by rw [List.length_append,HCl.out]; rfl,by rw [HTv.out]; exact T4.out,by rw [HTc.out]; exact HBA.out.snoc HAt.out⟩
       case measure=>simp [intOf]; omega
      focus
       go_simp;have b2:Below V1.heap.size V1 (V1.alloc (.cells #[zal sv] 9)):=((Below.refl _ _).alloc xnl _);have x2:=zab b2 (zaa x1) x1
       refine hK.out _ _ (HS.out _ (HB1.out.trans (b2.mono HB1.out.size)) x2) (fun hHeld=>?_)
       clear hK K
       refine zbr (fun V2 hV=>?_)
       rw [← hV] at b2 x2;have g17:V2.heap[V1.heap.size]? = some (.cells #[zal sv] 9 (0,0)):=by rw [hV]; exact zac rfl
       have T2:=zjp (T1.out.below b2);have HB2:=zjp (HB1.out.trans (b2.mono HB1.out.size));have g6:=zab b2 (zaa g6) g6;have z2:=b2.size;clear hV hHeld;have hHeld:=HS.out _ HB2.out x2;refine wpAnyH_ready (rs:=[7]) (by kernel_rfl) (by simp) ?_
       refine AllReadyH.cons rfl (fun K hK=>?_) (AllReadyH.nil)
       have HRd:=zjp (show zcn V2 2 (.slice (some ⟨WR.heap.size,0,none⟩) 1 1) [(⟨zl,za,zn,zc⟩:BV)].length ([(⟨zl,za,zn,zc⟩:BV)].flatMap za3) from za2 (xs:=[(⟨zl,za,zn,zc⟩:BV)].flatMap za3) (fr:=(0,0)) (t:=56) g6 rfl)
       refine zdm (.tmp 68) (.tmp 74) 57 (by rfl) 56 (.agg #[.int .i64 0,.slice none 0 0]) 2 32 za3 (fun _=>rfl) ze4 underlying57 zf6 rfl (by decide) (by decide) (w0:=W2) (v:=.slice ca j cc) (A:=CB) (B:=[⟨zl,za,zn,zc⟩]) (by rfl) T2.out.one (by rfl) HRd.out (by rw [HCl.out]; simp only [List.length_cons,List.length_nil]; omega) ?_
       intro u3 V3 ho3 hk3 hz3 hat3;have T3:=zjp (T2.out.put1 ho3 hk3 hat3);have x3:=hk3 _ _ (fun e=>by have h1:=HXn.out.1 _ e.symm; omega) x2
       have HB3:=zjp ho3.2;have g17:=hk3 _ _ (fun e=>by have h1:=(T0.out.one).1.lt _ e.symm; omega) g17
       have z3:=hz3;clear ho3 hk3 hat3
       refine hK.out _ _ (HS.out _ HB3.out x3) (fun hHeld=>?_)
       clear hK K;refine wpAnyH_ready (rs:=[18]) (by kernel_rfl) (by simp) ?_
       refine AllReadyH.cons rfl (fun K hK=>?_) (AllReadyH.nil)
       have HRd2:=zjp (show zcn V3 1 (.slice (some ⟨V1.heap.size,0,none⟩) 1 1) [sv].length ([sv].flatMap zba) from za2 (xs:=[sv].flatMap zba) (fr:=(0,0)) (t:=9) g17 rfl)
       refine zdm (.tmp 76) (.tmp 85) 28 (by rfl) 9 (.string ⟨#[]⟩) 1 16 zba (fun _=>rfl) one_encS1 underlying28 zdv rfl (by decide) (by decide) (w0:=W2) (v:=.slice va j vc) (A:=(zg8 R f).take j) (B:=[sv]) (by rfl) T3.out.two (by rfl) HRd2.out (by rw [HVl.out]; simp only [List.length_cons,List.length_nil]; omega) ?_
       intro v4 V4 ho4 hk4 hz4 hat4;have T4:=zjp (T3.out.put2 ho4 hk4 hat4);have x4:=hk4 _ _ (fun e=>by have h1:=HXn.out.2 _ e.symm; omega) x3
       have HB4:=zjp ho4.2;have z4:=hz4;clear ho4 hk4 hat4
       refine hK.out _ _ (HS.out _ HB4.out x4) (fun hHeld=>?_)
       clear hK K;refine tH 19 (h:=?_);refine tH 20 (h:=?_);refine wpAnyH_done (by kernel_rfl) ?_ _;refine NoPanic.normal ?_;go_wp2_with fail
       go_roundw
       case rel=>exact ⟨j + 1,CB ++ [⟨zl,za,zn,zc⟩],by go_num,by omega,by rw [List.length_append,HCl.out]; rfl,by rw [HTv.out]; exact T4.out,by rw [HTc.out]; exact HBA.out.snoc HAt.out⟩
       case measure=>simp [intOf]; omega
     focus
      go_simp;have b1:Below WR.heap.size WR (WR.alloc (.cells #[zal sv] 9)).drew:=((Below.refl _ _).alloc xnl _).drew;have x1:=zab b1 (zaa x0) x0
      refine hK.out _ _ (HS.out _ (HB0.out.trans (b1.mono HB0.out.size)) x1) (fun hHeld=>?_)
      clear hK K
      refine zbr (fun V1 hV=>?_)
      rw [← hV] at b1 x1;have g17:V1.heap[WR.heap.size]? = some (.cells #[zal sv] 9 (0,0)):=by rw [hV]; exact zac rfl
      have T1:=zjp (T0.out.below b1);have HB1:=zjp (HB0.out.trans (b1.mono HB0.out.size));have z1:=b1.size;clear hV hHeld;have hHeld:=HS.out _ HB1.out x1;refine wpAnyH_ready (rs:=[6]) (by kernel_rfl) (by simp) ?_
      refine AllReadyH.cons rfl (fun K hK=>?_) (AllReadyH.nil)
      go_simp;have b2:Below V1.heap.size V1 (V1.alloc (.cells #[.int .i64 zl,.slice za zn zc] 56)):=((Below.refl _ _).alloc xnl _);have x2:=zab b2 (zaa x1) x1
      refine hK.out _ _ (HS.out _ (HB1.out.trans (b2.mono HB1.out.size)) x2) (fun hHeld=>?_)
      clear hK K
      refine zbr (fun V2 hV=>?_)
      rw [← hV] at b2 x2;have g6:V2.heap[V1.heap.size]? = some (.cells #[.int .i64 zl,.slice za zn zc] 56 (0,0)):=by rw [hV]; exact zac rfl
      have T2:=zjp (T1.out.below b2);have HB2:=zjp (HB1.out.trans (b2.mono HB1.out.size));have g17:=zab b2 (zaa g17) g17;have z2:=b2.size;clear hV hHeld;have hHeld:=HS.out _ HB2.out x2;refine wpAnyH_ready (rs:=[7]) (by kernel_rfl) (by simp) ?_
      refine AllReadyH.cons rfl (fun K hK=>?_) (AllReadyH.nil)
      have HRd:=zjp (show zcn V2 2 (.slice (some ⟨V1.heap.size,0,none⟩) 1 1) [(⟨zl,za,zn,zc⟩:BV)].length ([(⟨zl,za,zn,zc⟩:BV)].flatMap za3) from za2 (xs:=[(⟨zl,za,zn,zc⟩:BV)].flatMap za3) (fr:=(0,0)) (t:=56) g6 rfl)
      refine zdm (.tmp 68) (.tmp 74) 57 (by rfl) 56 (.agg #[.int .i64 0,.slice none 0 0]) 2 32 za3 (fun _=>rfl) ze4 underlying57 zf6 rfl (by decide) (by decide) (w0:=W2) (v:=.slice ca j cc) (A:=CB) (B:=[⟨zl,za,zn,zc⟩]) (by rfl) T2.out.one (by rfl) HRd.out (by rw [HCl.out]; simp only [List.length_cons,List.length_nil]; omega) ?_
      intro u3 V3 ho3 hk3 hz3 hat3;have T3:=zjp (T2.out.put1 ho3 hk3 hat3);have x3:=hk3 _ _ (fun e=>by have h1:=HXn.out.1 _ e.symm; omega) x2
      have HB3:=zjp ho3.2;have g17:=hk3 _ _ (fun e=>by have h1:=(T0.out.one).1.lt _ e.symm; omega) g17
      have z3:=hz3;clear ho3 hk3 hat3
      refine hK.out _ _ (HS.out _ HB3.out x3) (fun hHeld=>?_)
      clear hK K;refine wpAnyH_ready (rs:=[18]) (by kernel_rfl) (by simp) ?_
      refine AllReadyH.cons rfl (fun K hK=>?_) (AllReadyH.nil)
      have HRd2:=zjp (show zcn V3 1 (.slice (some ⟨WR.heap.size,0,none⟩) 1 1) [sv].length ([sv].flatMap zba) from za2 (xs:=[sv].flatMap zba) (fr:=(0,0)) (t:=9) g17 rfl)
      refine zdm (.tmp 76) (.tmp 85) 28 (by rfl) 9 (.string ⟨#[]⟩) 1 16 zba (fun _=>rfl) one_encS1 underlying28 zdv rfl (by decide) (by decide) (w0:=W2) (v:=.slice va j vc) (A:=(zg8 R f).take j) (B:=[sv]) (by rfl) T3.out.two (by rfl) HRd2.out (by rw [HVl.out]; simp only [List.length_cons,List.length_nil]; omega) ?_
      intro v4 V4 ho4 hk4 hz4 hat4;have T4:=zjp (T3.out.put2 ho4 hk4 hat4);have x4:=hk4 _ _ (fun e=>by have h1:=HXn.out.2 _ e.symm; omega) x3
      have HB4:=zjp ho4.2;have z4:=hz4;clear ho4 hk4 hat4
      refine hK.out _ _ (HS.out _ HB4.out x4) (fun hHeld=>?_)
      clear hK K;refine tH 19 (h:=?_);refine tH 20 (h:=?_);refine wpAnyH_done (by kernel_rfl) ?_ _;refine NoPanic.normal ?_;go_wp2_with fail
      go_roundw
      case rel=>exact ⟨j + 1,CB ++ [⟨zl,za,zn,zc⟩],by go_num,by omega,by rw [List.length_append,HCl.out]; rfl,by rw [HTv.out]; exact T4.out,by rw [HTc.out]; exact HBA.out.snoc HAt.out⟩
      case measure=>simp [intOf]; omega
    ·have hqj:decide ((j:Int) < (nR:Int)) = false:=by simp; omega
     obtain rfl:j = nR:=by omega
     have htR:(zg8 R f).take j = zg8 R f:=List.take_of_length_le (by rw [zir,HNR.out]; omega);have htE:(zef E f).take j = zef E f:=List.take_of_length_le (by rw [zd5,HEl.out]; omega);rw [htR] at HT;rw [htE] at HBA;have hbits:=(col_in (k:=k) HRi.out f);rw [HE.out] at hbits;have hcl:CB.length = j:=HCl.out;have hCv:BitsVec WR0 zav (.slice ca j cc) (zef E f):=⟨CB,by have:=(OwnV.vec (size:=2) (enc:=za3) (fun _=>rfl) HT.out.one).any; exact this,(HBA.out.move4 HT.out.one.2).weaken fun _ _=>trivial⟩
     have hVv:Vec WR0 zav 1 zba (.slice va j vc) (zg8 R f):=(OwnV.vec (size:=1) (enc:=zba) (fun _=>rfl) HT.out.two).any
     have has:=assess_any zav zav zav (f:Int) _ _ _ (zef E f) (zg8 R f) D WR0 hCv hVv (HDv.out.below HT.out.one.2) (fun b hb=>bitsIn_I (hbits b hb)) (fun b hb=>bitsIn_U (hbits b hb)) (by rw [zd5,HEl.out]; omega) (by rw [zd5,zir,HEl.out,HNR.out]) hDl
     obtain ⟨⟨xf,xu,xh,xc2,xi⟩,hx⟩:∃ x:Ex,zft E R f D = x:=⟨_,rfl⟩;have HX:=zjp hx;by_cases hcd:zcg D = 0
     ·rw [assessN_eq E R f D hcd,hx] at has
      dsimp only [Ex.val] at has;have HAs:=zjp has;have HCd:=zjp hcd;have HTO:=zjp HT.out.one.2;clear has hcd hbits hcl hCv hVv htR htE hx HT HBA ht;go_wp2_with fail
      refine HAs.out.mono ?_;rintro e w4 ⟨rfl,hb4⟩;have HB4:=zjp (HTO.out.trans (hb4.mono HTO.out.size));clear hb4;have hne:=exposN_snoc E R D (Ds.take f) 0;rw [Nat.zero_add,List.length_take,HND.out,Nat.min_eq_left (Nat.le_of_lt hlt),HX.out,← HTk.out] at hne;have HNe:=zjp hne
      have hde2:zdx (Ds.take (f + 1)) = 0:=by
       rw [HTk.out]
       refine zga fun Y hY=>?_
       rcases List.mem_append.1 hY with h | h
       ·exact zij HDe.out Y h
       ·rw [List.mem_singleton.1 h]; exact HCd.out
      have HDe2:=zjp hde2;clear hde2;clear hne;have hw:∀ W6,W6 = (w4.alloc (.cells #[.int .i64 xf,.int .i64 xu,.int .i64 xh,.int .i64 xc2,.int .i64 xi] 61))→W6.heap[w4.heap.size]? = some (.cells #[.int .i64 xf,.int .i64 xu,.int .i64 xh,.int .i64 xc2,.int .i64 xi] 61 (0,0))∧Below W2.heap.size W2 W6:=fun W6 h=>by rw [h]; exact ⟨zac rfl,HB4.out.alloc HB4.out.size _⟩
      have HW:=zjp hw;clear hw;have HO6:=zjp (HO.out.below ((HB4.out.alloc HB4.out.size (.cells #[.int .i64 xf,.int .i64 xu,.int .i64 xh,.int .i64 xc2,.int .i64 xi] 61))));have HOw:=HO6.out.1;rw [HOl.out] at HOw;have HOw2:=zjp HOw;clear HOw;go_wp2_with (at_builtin; refine zcj rfl _ _ 46 rfl w3.heap.size 61 5 40 _ underlying46 infoEx rfl (by decide) (by decide) _ _ _ rfl HOw2.out (w4.heap.size + 1) (by simp) #[.int .i64 xf,.int .i64 xu,.int .i64 xh,.int .i64 xc2,.int .i64 xi] 1 rfl rfl (by simp [Value.oneCell']) (by omega) HO6.out.2.size ?_; intro v5 w5 ho5 hw5)
      go_roundw
      case rel =>
       refine ⟨f + 1,by go_num,by omega,⟨?_,hw5 _ HO6.out.2⟩,HDe2⟩;rw [HNe.out,List.length_append,HOl.out,List.flatMap_append];simpa [Ex.cells] using ho5
      case measure=>simp [intOf]; omega
     ·have hae:zhm (f:Int) (zef E f) (zg8 R f) D = (⟨0,0,0,0,0⟩,zcg D):=by unfold zhm; rw [if_neg hcd]
      rw [hae] at has;obtain ⟨er,her⟩:∃ er,zcg D = er:=⟨_,rfl⟩;rw [her] at has hcd
      have hde:zdx Ds = er:=by
       rw [HDrop.out,dictErr_app _ _ _ HDe.out];show (if zcg D = 0 then _ else zcg D) = er;rw [if_neg (by rw [her]; exact hcd),her]
      have hZ2:Z = ([],er):=by rw [← HZ.out]; unfold zdq; rw [if_pos (by rw [HCe.out]; exact HC0.out),if_pos (by rw [HCa.out]; exact HC1.out),if_pos (by rw [HND.out,HNF.out]; exact HC2.out),if_neg (by rw [hde]; exact hcd),hde]
      have HZ2:=zjp hZ2;have de:(er != 0) = true:=by simpa using hcd
      dsimp only [Ex.val] at has;have HAs:=zjp has;have HTO:=zjp HT.out.one.2;clear has hcd hbits hcl hCv hVv htR htE hx HT HBA ht hae her hde hZ2;go_wp2_with fail
      refine HAs.out.mono ?_;rintro e w4 ⟨rfl,hb4⟩;have HB4:=zjp (HTO.out.trans (hb4.mono HTO.out.size));clear hb4;go_wp2_with fail
      go_ret2;rw [HZ2.out];exact ⟨_,rfl,zjg _ _,(HB3W.out.trans (HB4.out.mono HB3W.out.size)).alloc (by have:=HB3W.out.size; have:=HB4.out.size; omega) _⟩
  ·have hq:decide ((f:Int) < (nD:Int)) = false:=by simp; omega
   obtain rfl:f = nD:=by omega
   have htD:Ds.take f = Ds:=List.take_of_length_le (by rw [HND.out]; omega);rw [htD] at HO HDe;have hZ2:Z = (zd0 E R 0 Ds,0):=by rw [← HZ.out]; unfold zdq; rw [if_pos (by rw [HCe.out]; exact HC0.out),if_pos (by rw [HCa.out]; exact HC1.out),if_pos (by rw [HND.out,HNF.out]; exact HC2.out),if_pos HDe.out,HE.out]
   have HZ2:=zjp hZ2;clear hZ2 htD ho;go_wp2_with fail
   go_ret2;rw [HZ2.out];refine ⟨_,rfl,?_,HB3W.out⟩;have h5:=HO.out.1;rw [zcx,HND.out] at h5;unfold ExRow;rw [zcx,HND.out];exact Row.owns h5 fun b hb _=>Nat.le_trans HB3.out.size hb
end
section
open Go.RowKit
def dictV:List (List UInt8):=[[97,110,110,32,109,105,108,108,101,114],[111,110,101,105,108,108],[112,101,116,101,114],[114,111,98,101,114,116,32,115,109,105,116,104],[114,117,112,101,114,116],[114,117,116,104]]
theorem dictV_asc:dictV.Pairwise fun a b=>a < b:=by decide
structure DictD (k:Nat) (L:List zdl):Prop where
 sub:(L.map Prod.fst).Sublist (dictV.take k)
 cnt:∀ d∈L,1≤d.2∧d.2≤6
theorem DictD.nil (k:Nat):DictD k []:=⟨by simp,by simp⟩
theorem DictD.len {k:Nat} {L:List zdl} (h:DictD k L):L.length≤k:=by
 have:=h.sub.length_le;rw [List.length_map,List.length_take] at this; omega
theorem DictD.skip {k:Nat} {L:List zdl} (h:DictD k L) (hk:k < dictV.length):DictD (k + 1) L :=
 ⟨by rw [List.take_succ_eq_append_getElem hk]; exact h.sub.trans (List.sublist_append_left _ _),h.cnt⟩
theorem DictD.snoc {k:Nat} {L:List zdl} (h:DictD k L) (hk:k < dictV.length) {c:Int} (h1:1≤c) (h6:c≤6):DictD (k + 1) (L ++ [(dictV[k],c)]):=by
 refine ⟨?_,fun d hd=>?_⟩
 ·rw [List.take_succ_eq_append_getElem hk,List.map_append]
  exact List.Sublist.append h.sub (List.Sublist.refl _)
 ·rcases List.mem_append.1 hd with h2 | h2
  ·exact h.cnt d h2
  ·rw [List.mem_singleton.1 h2]; exact ⟨h1,h6⟩
theorem DictD.check {k:Nat} {L:List zdl} (h:DictD k L):zcg L = 0:=by
 have hl:=h.sub.length_le;rw [List.length_map,List.length_take] at hl;have h6:dictV.length = 6:=rfl;have hp:(L.map Prod.fst).Pairwise fun a b=>a < b:=(dictV_asc.sublist (List.take_sublist _ _)).sublist h.sub
 unfold zcg;rw [if_neg (by omega),if_neg,if_neg]
 ·rw [Bool.not_eq_true,List.any_eq_false]
  intro d hd;have:=h.cnt d hd;unfold badEn;simp; omega
 ·rw [ascD_all fun j hj=>?_]; · simp
  unfold ascE;have h1:j < L.length:=by omega
  rw [List.getD,List.getElem?_eq_getElem h1,List.getD,List.getElem?_eq_getElem hj];have:=List.pairwise_iff_getElem.1 hp j (j + 1) (by simpa using h1) (by simpa using hj) (by omega);simpa using this
theorem infoEnt:(prog.info? 91).map (fun i=>(i.zero,i.size,i.bytes)) = some (some (.agg #[.string ⟨#[]⟩,.int .i64 0]),2,24):=by kernel_rfl
def DictPost (D:Nat) (w:World) (e:Ending) (w':World):Prop:=∃ v L,e = .returned v∧Vec w' (fun b=>w.heap.size≤b) 2 zgz v L∧DictD 6 L∧Moved D w w'
theorem dict_deal (D:Nat) (w:World) (h:DeckAt w D) :
  Calls prog 13 #[.pointer (some ⟨D,0,none⟩)] w (DictPost D w):=by
 have zD:=h.lt;have M0:=zjp (Moved.start h); clear h;go_enter func13,ntmps13
 go_wp2_with fail
 refine zam (fun W hW=>?_)
 have hm0:Moved D w W:=by rw [hW]; exact M0.out.alloc _
 have hr0:RowB W w.heap.size dictV:=by rw [hW]; exact zac rfl
 have HR0:=zjp hr0; have HM0:=zjp hm0;have zW:W.heap.size = w.heap.size + 1:=by rw [hW]; simp
 clear hW hr0 hm0 M0;go_loopw [3,5] (fun v i wr=>∃ (k:Nat) (L:List zdl),i = .int .i64 k∧k≤6∧OwnM D 91 2 zgz W v L wr∧RowB wr w.heap.size dictV∧DictD k L) (fun _ i _=>6 - (intOf i).toNat)
 case atStart=>exact ⟨0,[],rfl,by omega,OwnM.nil (Moved.start HM0.out.deck),HR0.out,DictD.nil 0⟩
 case round =>
  obtain ⟨k,L,rfl,hk,ho,hrow,hd⟩:=hrel;have HO:=zjp ho; have HR:=zjp hrow; have HD:=zjp hd;obtain ⟨av,cv,ev⟩:=zau ho.1;obtain ⟨n,hn⟩:∃ n,L.length = n:=⟨_,rfl⟩;rw [hn] at ev;subst ev;have HN:=zjp hn;have hn6:n≤6:=by have:=hd.len; omega
  clear ho hrow hd hn HR0;by_cases hlt:k < 6
  ·have hq:decide ((k:Int) < 6) = true:=by simp; omega
   have hki:(k:Int) < 6:=by omega
   have hkd:k < dictV.length:=hlt;go_wp2_with fail
   refine (zfd D _ 4 HO.out.2.deck (by omega) (by omega)).mono ?_;rintro e w1 ⟨u,rfl,mv⟩;have HO1:=zjp (HO.out.moved mv);have HR1:=zjp (show RowB w1 w.heap.size dictV from mv.blk (k:=w.heap.size) (by omega) HR.out);clear mv HO HR;cases u
   ·have c0:=HR1.out.cell k hkd
    obtain ⟨t,ht⟩:∃ t,dictV.getD k [] = t:=⟨_,rfl⟩;rw [ht] at c0;have HT:=zjp ht;have lw:=zaa HR1.out;clear ht;go_wp2_with fail
    refine wp_region_noPanic ?_
    refine wp_region_held_drew (S:=(fun w'=>w'.cell? ⟨w.heap.size,k,none⟩ = some (zal t))) (by kernel_rfl) (c0) (fun hHeld=>?_)
    refine tH 0 (h:=?_);refine tH 1 (h:=?_);refine tH 2 (h:=?_);refine tH 3 (h:=?_);refine tH 4 (h:=?_);refine tH 5 (h:=?_);refine wpAnyH_ready (rs:=[6]) (by kernel_rfl) (by simp) ?_
    refine AllReadyH.cons rfl (fun K hK=>?_) AllReadyH.nil
    go_simp;refine (zc0 D _ 6 (HO1.out.2.drew).deck (by omega) (by omega)).mono ?_; rintro e w2 ⟨x,rfl,x0,x1,mv⟩; have hwx:IntKind.i64.wrap (1 + x) = 1 + x:=(by rw [IntKind.wrap_i64]; omega); have m2:Moved D w1 w2:=(Moved.start HO1.out.2.deck).drew.trans mv; have HO2:=zjp (HO1.out.moved m2); have HR2:=zjp (show RowB w2 w.heap.size dictV from m2.blk (k:=w.heap.size) (by omega) HR1.out); have c2:=HR2.out.cell k hkd; rw [HT.out] at c2; clear mv
    refine hK.out _ _ (c2) (fun hHeld=>?_)
    clear hK K;refine tH 7 (h:=?_);refine tH 8 (h:=?_);have hA:=(Moved.start HO2.out.2.deck).alloc (.cells #[zal t,.int .i64 (1 + x)] 91);have HOA:=zjp (HO2.out.moved hA);have hRA:=zjp (show RowB (w2.alloc (.cells #[zal t,.int .i64 (1 + x)] 91)) w.heap.size dictV from hA.blk (k:=w.heap.size) (by omega) HR2.out);have cA:=hRA.out.cell k hkd;rw [HT.out] at cA;refine wpAnyH_ready (rs:=[9]) (by kernel_rfl) (by simp) ?_
    refine AllReadyH.cons rfl (fun K hK=>?_) AllReadyH.nil
    go_simp;skip
    refine hK.out _ _ (cA) (fun hHeld=>?_)
    clear hK K;have HRd:=zjp (show zcn (w2.alloc (.cells #[zal t,.int .i64 (1 + x)] 91)) 2 (.slice (some ⟨w2.heap.size,0,none⟩) 1 1) [((t,1 + x):zdl)].length ([((t,1 + x):zdl)].flatMap zgz) from za2 (xs:=[((t,1 + x):zdl)].flatMap zgz) (fr:=(0,0)) (t:=91) (zac rfl) rfl);have hoff:some w.heap.size≠(Value.slice av n cv).ownBlock:=fun e=>by have:=(HOA.out.1.lt _ e.symm).1; omega
    refine wpAnyH_ready (rs:=[10]) (by kernel_rfl) (by simp) ?_
    refine AllReadyH.cons rfl (fun K hK=>?_) AllReadyH.nil
    refine wp_append_m (.tmp 15) (.tmp 24) 44 (by rfl) D 91 (.agg #[.string ⟨#[]⟩,.int .i64 0]) 2 24 zgz (fun _=>rfl) one_encEn underlying44 infoEnt rfl (by decide) (by decide) (wA:=W) (v:=.slice av n cv) (A:=L) (B:=[(t,1 + x)]) (by rfl) HOA.out (by rfl) HRd.out (by rw [HN.out]; simp; omega) ?_; intro v4 w4 ho4 hk4; have HO4:=zjp ho4; have HR4:=zjp (show RowB w4 w.heap.size dictV from hk4 _ _ hoff hRA.out); have c4:=HR4.out.cell k hkd; rw [HT.out] at c4; clear ho4 hk4
    refine hK.out _ _ (c4) (fun hHeld=>?_)
    clear hK K;refine tH 11 (h:=?_);refine wpAnyH_done (by kernel_rfl) ?_ _;refine NoPanic.normal ?_;go_wp2_with fail
    have hsn:=HD.out.snoc (c:=1 + x) hkd (by omega) (by omega);have ht2:dictV[k] = t:=by rw [← HT.out]; exact (za5 _ _ hkd).symm
    rw [ht2] at hsn;have HSn:=zjp hsn;clear hsn ht2;go_roundw
    case rel=>exact ⟨k + 1,L ++ [(t,1 + x)],by go_num,by omega,HO4.out,HR4.out,HSn.out⟩
    case measure=>simp [intOf]; omega
   ·go_wp2_with fail
    go_roundw
    case rel=>exact ⟨k + 1,L,by go_num,by omega,HO1.out,HR1.out,HD.out.skip hkd⟩
    case measure=>simp [intOf]; omega
  ·have hq:decide ((k:Int) < 6) = false:=by simp; omega
   obtain rfl:k = 6:=by omega
   go_wp2_with fail
   go_ret;exact ⟨_,L,rfl,(OwnM.vec (size:=2) (enc:=zgz) (fun _=>rfl) HO.out).move xnl (fun b _ hb=>⟨rfl,by have hb':W.heap.size≤b:=hb; omega⟩),HD.out,HM0.out.trans HO.out.2⟩
end
section
open Go.RowKit Cal
abbrev Off (D:Nat):Nat→Prop:=fun b=>b≠D
theorem Vec.movedD {D:Nat} {w w':World} {α:Type} {k:Nat} {enc:α→List Value} {v:Value} {L:List α} (h:Vec w (Off D) k enc v L) (m:Moved D w w'):Vec w' (Off D) k enc v L :=
 h.move m.size fun b hb hs=>⟨m.grown.block b hb (by have:b≠D:=hs; simp; omega),hs⟩
theorem RecsVec.movedD {D:Nat} {w w':World} {v:Value} {R:List RecL} (h:RecsVec w (Off D) v R) (m:Moved D w w'):RecsVec w' (Off D) v R :=
 h.move m.size fun b hb hs=>⟨m.grown.block b hb (by have:b≠D:=hs; simp; omega),hs⟩
theorem Vec.off {D:Nat} {w:World} {S:Nat→Prop} {α:Type} {k:Nat} {enc:α→List Value} {v:Value} {L:List α} (h:Vec w S k enc v L) (hS:∀ b,b < w.heap.size→S b→b≠D):Vec w (Off D) k enc v L:=h.move xnl fun b hb hs=>⟨rfl,hS b hb hs⟩
theorem RecsVec.off {D:Nat} {w:World} {S:Nat→Prop} {v:Value} {R:List RecL} (h:RecsVec w S v R) (hS:∀ b,b < w.heap.size→S b→b≠D):RecsVec w (Off D) v R:=h.move xnl fun b hb hs=>⟨rfl,hS b hb hs⟩
structure ShortR (r:RecL):Prop where
 n:r.vals.length≤20
 s:∀ x∈r.vals,x.length≤200
structure EX (D B Y:Nat) (W0:World) (key:Int × Int) (r:RecL) (ra:Option Addr) (rc:Nat) (o:EncL) (oa:Option Addr) (oc:Nat) (S:Nat→Prop) (vf vt vn vs:Value) (s:SchemaL) (rv:Value) (R:List RecL) (wr:World):Prop where
 m:Moved D W0 wr
 k:wr.heap[B]? = some (.cells #[.int .u64 key.1,.int .u64 key.2] 41 (0,0))
 x:wr.heap[B + 1]? = some (.cells #[.int .i64 r.id,.int .i64 r.ver,.slice ra r.vals.length rc] 68 (0,0))
 ob:wr.heap[B + 2]? = some (.cells #[.int .i64 o.id,.int .i64 o.ver,.slice oa o.fields.length oc] 59 (0,0))
 y:wr.heap[Y]? = some (.cells #[vf,vt,vn,vs] 33 (0,0))
 sa:SchemaAt wr S vf vt vn vs s
 rs:RecsVec wr (Off D) rv R
 vv:Vec wr (Off D) 1 zba (.slice ra r.vals.length rc) r.vals
 oo:BitsVec wr (Off D) (.slice oa o.fields.length oc) o.fields
 ne:∀ b,S b→b≠D
 bD:B + 2 < D
 yD:Y≠D
theorem pars_in {n:Nat} {P:List ParL} (h:ParsD n n P):∀ p∈P,InI p.len:=by
 intro p hp;obtain ⟨i,hi,rfl⟩:=List.mem_iff_getElem.1 hp;have h1:=(h.par i (by rw [← h.len]; exact hi)).1;rw [za5 _ _ hi] at h1;exact ⟨by have:=h1.len1; omega,by have:=h1.len2; omega⟩
end
section
open Go.RowKit
theorem calls_world {P:Program} {f:Nat} {args:Array Value} {w:World} {Q:Ending→World→Prop} (h:∀ wS,wS = w→Calls P f args wS Q):Calls P f args w Q:=h w rfl
def wA:Ex:=⟨0,3,1,2,400⟩
def wB:Ex:=⟨0,3,2,2,400⟩
theorem one_row {w:World} {b:Nat} {x:Ex} (h:w.heap[b]? = some (.cells x.cells.toArray 61 (0,0))):ExRow w (All w) (.slice (some ⟨b,0,none⟩) 1 1) [x] :=
 ⟨_,_,rfl,rfl,fun _=>⟨b,0,rfl,zaa h,fun j hj=>by rw [cell_of_row _ _ _ _ _ _ h]; simp [zgo]⟩⟩
theorem zgr (w:World) :
  Calls prog 6 #[] w fun e w'=>e = .returned (.bool true)∧Below w.heap.size w w':=by
 go_enter func6,ntmps6
 go_wp2_with fail
 refine calls_world (fun w0 h0=>?_)
 have A0:w0.heap[w.heap.size]? = some (.cells wA.cells.toArray 61 (0,0)):=by rw [h0]; exact zaf (zac rfl)
 have B0:w0.heap[w.heap.size + 1]? = some (.cells wB.cells.toArray 61 (0,0)):=by rw [h0]; exact zac (by simp)
 have HB0:=zjp (show Below w.heap.size w w0 by rw [h0]; exact ((Below.refl _ _).alloc xnl _).alloc (by simp) _);clear h0;have HA0:=zjp (one_row A0);have HBB0:=zjp (one_row B0);refine (enter_good _ _ [wA] [wB] _ HA0.out HBB0.out (by decide) (by decide) (by decide)).mono ?_; rintro e w1 ⟨⟨v,rfl,hv⟩,hb⟩;obtain ⟨va,vc,rfl⟩:∃ va vc,v = .slice va 1 vc:=hv.val;obtain ⟨bv,ov,rfl,zv,v0,v1,v2,v3,v4⟩:=hv.get 0 (by decide);simp only [Nat.zero_mul,Nat.add_zero] at v0 v1 v2 v3 v4;change _ = some (Value.int .i64 0) at v0;change _ = some (Value.int .i64 3) at v1;change _ = some (Value.int .i64 2) at v2;change _ = some (Value.int .i64 2) at v3;change _ = some (Value.int .i64 400) at v4;have B1:=zab (b:=w.heap.size + 1) hb (zaa B0) B0;have zp:=zaa B1;have p0:w1.cell? ⟨w.heap.size + 1,0,none⟩ = some (.int .i64 0):=(cell_of_row _ _ _ _ _ _ B1).trans rfl;have p1:w1.cell? ⟨w.heap.size + 1,1,none⟩ = some (.int .i64 3):=(cell_of_row _ _ _ _ _ _ B1).trans rfl;have p2:w1.cell? ⟨w.heap.size + 1,2,none⟩ = some (.int .i64 2):=(cell_of_row _ _ _ _ _ _ B1).trans rfl;have p3:w1.cell? ⟨w.heap.size + 1,3,none⟩ = some (.int .i64 2):=(cell_of_row _ _ _ _ _ _ B1).trans rfl;have p4:w1.cell? ⟨w.heap.size + 1,4,none⟩ = some (.int .i64 400):=(cell_of_row _ _ _ _ _ _ B1).trans rfl;have HAx:=zjp (HA0.out.below hb);have HBBx:=zjp (HBB0.out.below hb);have Hx:=zjp (HB0.out.trans (hb.mono HB0.out.size));clear hv hb A0 B0 B1 HA0 HBB0 HB0;go_wp2_with fail
 have hx:=zjp (show ExRow w1.drew (All w1.drew) _ [wA] from HAx.out); clear HAx; have HAx:=hx; clear hx;have hx:=zjp (show ExRow w1.drew (All w1.drew) _ [wB] from HBBx.out); clear HBBx; have HBBx:=hx; clear hx;have hx:=zjp (Hx.out.drew); clear Hx; have Hx:=hx; clear hx;refine wp_region_noPanic ?_
 refine wp_region_held_drew (S:=(fun w'=>w'.cell? ⟨bv,ov,none⟩ = some (.int .i64 0)∧w'.cell? ⟨bv,ov + 1,none⟩ = some (.int .i64 3)∧w'.cell? ⟨bv,ov + 2,none⟩ = some (.int .i64 2)∧w'.cell? ⟨bv,ov + 3,none⟩ = some (.int .i64 2)∧w'.cell? ⟨bv,ov + 4,none⟩ = some (.int .i64 400)∧w'.cell? ⟨w.heap.size + 1,0,none⟩ = some (.int .i64 0)∧w'.cell? ⟨w.heap.size + 1,1,none⟩ = some (.int .i64 3)∧w'.cell? ⟨w.heap.size + 1,2,none⟩ = some (.int .i64 2)∧w'.cell? ⟨w.heap.size + 1,3,none⟩ = some (.int .i64 2)∧w'.cell? ⟨w.heap.size + 1,4,none⟩ = some (.int .i64 400))) (by kernel_rfl) (⟨v0,v1,v2,v3,v4,p0,p1,p2,p3,p4⟩) (fun hHeld=>?_)
 refine tH 0 (h:=?_);refine tH 1 (h:=?_);refine wpAnyH_ready (rs:=[2]) (by kernel_rfl) (by simp) ?_
 refine AllReadyH.cons rfl (fun K hK=>?_) AllReadyH.nil
 go_simp;refine ((show _ from admit_any _ _ [wA] [wA] _ HAx.out HAx.out (by decide) (by decide))).mono ?_; rintro e wa ⟨he,hwa⟩; rw [show admitE [wA] [wA] = 0 from by decide] at he; subst he; have v0a:=(hwa.cell (p:=⟨bv,ov,none⟩) zv).trans v0; have v1a:=(hwa.cell (p:=⟨bv,ov + 1,none⟩) zv).trans v1; have v2a:=(hwa.cell (p:=⟨bv,ov + 2,none⟩) zv).trans v2; have v3a:=(hwa.cell (p:=⟨bv,ov + 3,none⟩) zv).trans v3; have v4a:=(hwa.cell (p:=⟨bv,ov + 4,none⟩) zv).trans v4; have p0a:=(hwa.cell (p:=⟨w.heap.size + 1,0,none⟩) zp).trans p0; have p1a:=(hwa.cell (p:=⟨w.heap.size + 1,1,none⟩) zp).trans p1; have p2a:=(hwa.cell (p:=⟨w.heap.size + 1,2,none⟩) zp).trans p2; have p3a:=(hwa.cell (p:=⟨w.heap.size + 1,3,none⟩) zp).trans p3; have p4a:=(hwa.cell (p:=⟨w.heap.size + 1,4,none⟩) zp).trans p4; have HAwa:=zjp (HAx.out.below hwa); have HBBwa:=zjp (HBBx.out.below hwa); have Hwa:=zjp (Hx.out.trans (hwa.mono Hx.out.size)); have zv1:=Nat.lt_of_lt_of_le zv hwa.size; have zp1:=Nat.lt_of_lt_of_le zp hwa.size; clear hwa
 refine hK.out _ _ (⟨v0a,v1a,v2a,v3a,v4a,p0a,p1a,p2a,p3a,p4a⟩) (fun hHeld=>?_)
 clear hK K;refine tH 3 (h:=?_);refine tH 4 (h:=?_);refine tH 5 (h:=?_);refine tH 6 (h:=?_);refine wpAnyH_ready (rs:=[7]) (by kernel_rfl) (by simp) ?_
 refine AllReadyH.cons rfl (fun K hK=>?_) AllReadyH.nil
 go_simp;refine (admit_any _ _ [wA] [wB] _ HAwa.out HBBwa.out (by decide) (by decide)).mono ?_; rintro e wb ⟨he,hwb⟩; rw [show admitE [wA] [wB] = 11 from by decide] at he; subst he; have v0b:=(hwb.cell (p:=⟨bv,ov,none⟩) zv1).trans v0a; have v1b:=(hwb.cell (p:=⟨bv,ov + 1,none⟩) zv1).trans v1a; have v2b:=(hwb.cell (p:=⟨bv,ov + 2,none⟩) zv1).trans v2a; have v3b:=(hwb.cell (p:=⟨bv,ov + 3,none⟩) zv1).trans v3a; have v4b:=(hwb.cell (p:=⟨bv,ov + 4,none⟩) zv1).trans v4a; have p0b:=(hwb.cell (p:=⟨w.heap.size + 1,0,none⟩) zp1).trans p0a; have p1b:=(hwb.cell (p:=⟨w.heap.size + 1,1,none⟩) zp1).trans p1a; have p2b:=(hwb.cell (p:=⟨w.heap.size + 1,2,none⟩) zp1).trans p2a; have p3b:=(hwb.cell (p:=⟨w.heap.size + 1,3,none⟩) zp1).trans p3a; have p4b:=(hwb.cell (p:=⟨w.heap.size + 1,4,none⟩) zp1).trans p4a; have HAwb:=zjp (HAwa.out.below hwb); have HBBwb:=zjp (HBBwa.out.below hwb); have Hwb:=zjp (Hwa.out.trans (hwb.mono Hwa.out.size)); have zv2:=Nat.lt_of_lt_of_le zv1 hwb.size; have zp2:=Nat.lt_of_lt_of_le zp1 hwb.size; clear hwb
 refine hK.out _ _ (⟨v0b,v1b,v2b,v3b,v4b,p0b,p1b,p2b,p3b,p4b⟩) (fun hHeld=>?_)
 clear hK K;refine tH 8 (h:=?_);refine tH 9 (h:=?_);refine tH 10 (h:=?_);refine tH 11 (h:=?_);refine tH 12 (h:=?_);refine tH 13 (h:=?_);refine tH 14 (h:=?_);refine tH 15 (h:=?_);refine tH 16 (h:=?_);refine tH 17 (h:=?_);refine tH 18 (h:=?_);refine tH 19 (h:=?_);refine tH 20 (h:=?_);refine tH 21 (h:=?_);refine tH 22 (h:=?_);refine tH 23 (h:=?_);refine tH 24 (h:=?_);refine tH 25 (h:=?_);refine tH 26 (h:=?_);refine tH 27 (h:=?_);refine tH 28 (h:=?_);refine tH 29 (h:=?_);refine wpAnyH_ready (rs:=[30]) (by kernel_rfl) (by simp) ?_
 refine AllReadyH.cons rfl (fun K hK=>?_) AllReadyH.nil
 go_simp;refine (zh2 _ _ _ [wA] _ HAwb.out (by decide)).mono ?_; rintro e wc ⟨he,hwc⟩; rw [show chkE [wA] = 0 from by decide] at he; subst he; have v0c:=(hwc.cell (p:=⟨bv,ov,none⟩) zv2).trans v0b; have v1c:=(hwc.cell (p:=⟨bv,ov + 1,none⟩) zv2).trans v1b; have v2c:=(hwc.cell (p:=⟨bv,ov + 2,none⟩) zv2).trans v2b; have v3c:=(hwc.cell (p:=⟨bv,ov + 3,none⟩) zv2).trans v3b; have v4c:=(hwc.cell (p:=⟨bv,ov + 4,none⟩) zv2).trans v4b; have p0c:=(hwc.cell (p:=⟨w.heap.size + 1,0,none⟩) zp2).trans p0b; have p1c:=(hwc.cell (p:=⟨w.heap.size + 1,1,none⟩) zp2).trans p1b; have p2c:=(hwc.cell (p:=⟨w.heap.size + 1,2,none⟩) zp2).trans p2b; have p3c:=(hwc.cell (p:=⟨w.heap.size + 1,3,none⟩) zp2).trans p3b; have p4c:=(hwc.cell (p:=⟨w.heap.size + 1,4,none⟩) zp2).trans p4b; have HAwc:=zjp (HAwb.out.below hwc); have HBBwc:=zjp (HBBwb.out.below hwc); have Hwc:=zjp (Hwb.out.trans (hwc.mono Hwb.out.size)); have zv3:=Nat.lt_of_lt_of_le zv2 hwc.size; have zp3:=Nat.lt_of_lt_of_le zp2 hwc.size; clear hwc
 refine hK.out _ _ (⟨v0c,v1c,v2c,v3c,v4c,p0c,p1c,p2c,p3c,p4c⟩) (fun hHeld=>?_)
 clear hK K;refine tH 31 (h:=?_);refine tH 32 (h:=?_);refine tH 33 (h:=?_);refine wpAnyH_done (by kernel_rfl) ?_ _;refine NoPanic.normal ?_;go_wp2_with fail
 go_ret;exact ⟨rfl,Hwc.out⟩
end
section
open Go.RowKit
end
section
open Go.RowKit
theorem deck_law2 {w w1:World} {a:Option Addr} {n cap:Nat} {zs:List Int} (hn:n≤400) (hr:IsRow .i64 w a n cap zs) (hb:Below w.heap.size w w1) :
  DeckAt (w1.alloc (.cells #[.slice a n cap,.int .i64 0,.int .u64 11400714819323198485] 81)) w1.heap.size :=
 deck_new hn fun h0=>by
  obtain ⟨b,off,e1,e2,e3⟩:=hr.read h0;exact ⟨b,off,e1,Nat.lt_of_lt_of_le e2 hb.size,fun i hi=>by obtain ⟨x,hx⟩:=e3 i hi; exact ⟨x,(hb.cell (p:=⟨b,off + i,none⟩) e2).trans hx⟩⟩
theorem ExRow.all {w:World} {S:Nat→Prop} {v:Value} {l:List Ex} (h:ExRow w S v l):ExRow w (All w) v l:=Row.move h fun b hb _=>⟨rfl,hb⟩
end
section
open Go.RowKit Cal
theorem parsA_yes (n:Nat):∀ (L:List ParL) (i:Nat),(∀ j,j < L.length→zej n (i + j) (L.getD j default) = true)→zi3 n i L = 0
 | [],i,_=>rfl
 | p :: l,i,h=>by
  unfold zi3;rw [if_pos (by simpa using h 0 (by simp))]
  refine parsA_yes n l (i + 1) fun j hj=>?_
  have:=h (j + 1) (by simpa using hj);rw [List.getD_cons_succ,show i + (j + 1) = i + 1 + j by omega] at this;exact this
theorem pars_check {s:SchemaL} {P:List ParL} (hs:zax s = 0) (h:ParsD s.fields.length s.fields.length P):zby s P = 0:=by
 unfold zby;rw [if_pos hs,if_pos h.len]
 refine parsA_yes _ _ 0 fun j hj=>?_
 rw [h.len] at hj;obtain ⟨h1,h2,h3⟩:=h.par j hj;unfold zej;rw [h1.bloom,h.len];simp;exact ⟨h2,h3⟩
structure LX (D Y:Nat) (W0:World) (vf vt vn vs:Value) (s:SchemaL) (wr:World):Prop where
 m:Moved D W0 wr
 y:wr.heap[Y]? = some (.cells #[vf,vt,vn,vs] 33 (0,0))
 sa:SchemaAt wr (Off D) vf vt vn vs s
 yD:Y≠D
theorem LX.moved {D Y:Nat} {W0:World} {vf vt vn vs:Value} {s:SchemaL} {wr wd:World} (h:LX D Y W0 vf vt vn vs s wr) (m:Moved D wr wd):LX D Y W0 vf vt vn vs s wd :=
 ⟨h.m.trans m,m.blk h.yD h.y,h.sa.moved (fun b h=>h) m,h.yD⟩
theorem LX.below {D Y:Nat} {W0:World} {vf vt vn vs:Value} {s:SchemaL} {wr wd:World} (h:LX D Y W0 vf vt vn vs s wr) (hb:Below wr.heap.size wr wd):LX D Y W0 vf vt vn vs s wd :=
 h.moved ((Moved.start h.m.deck).below hb)
theorem LX.start {D Y:Nat} {W0:World} {vf vt vn vs:Value} {s:SchemaL} {wr:World} (h:LX D Y W0 vf vt vn vs s wr):Moved D wr wr:=Moved.start h.m.deck
abbrev OffZ (D Z:Nat):Nat→Prop:=fun b=>b≠D∧b≠Z
theorem Vec.movedZ {D Z:Nat} {w w':World} {α:Type} {k:Nat} {enc:α→List Value} {v:Value} {L:List α} (h:Vec w (OffZ D Z) k enc v L) (m:Moved D w w'):Vec w' (OffZ D Z) k enc v L :=
 h.move m.size fun b hb hs=>⟨m.grown.block b hb (by have:b≠D:=hs.1; simp; omega),hs⟩
theorem RecsVec.movedZ {D Z:Nat} {w w':World} {v:Value} {R:List RecL} (h:RecsVec w (OffZ D Z) v R) (m:Moved D w w'):RecsVec w' (OffZ D Z) v R :=
 h.move m.size fun b hb hs=>⟨m.grown.block b hb (by have:b≠D:=hs.1; simp; omega),hs⟩
theorem Vec.newZ {D:Nat} {w w':World} {α:Type} {k:Nat} {enc:α→List Value} {v:Value} {L:List α} (h:Vec w (Off D) k enc v L) (m:Moved D w w'):Vec w' (OffZ D w.heap.size) k enc v L :=
 h.move m.size fun b hb hs=>⟨m.grown.block b hb (by have:b≠D:=hs; simp; omega),hs,by show b≠w.heap.size; omega⟩
theorem RecsVec.newZ {D:Nat} {w w':World} {v:Value} {R:List RecL} (h:RecsVec w (Off D) v R) (m:Moved D w w'):RecsVec w' (OffZ D w.heap.size) v R :=
 h.move m.size fun b hb hs=>⟨m.grown.block b hb (by have:b≠D:=hs; simp; omega),hs,by show b≠w.heap.size; omega⟩
theorem Vec.farZ {D Z:Nat} {w:World} {α:Type} {k:Nat} {enc:α→List Value} {v x y:Value} {L:List α} (h:Vec w (OffZ D Z) k enc v L):Vec ((w.setCell ⟨Z,0,none⟩ x).setCell ⟨Z,1,none⟩ y) (Off D) k enc v L :=
 h.move (by simp [World.setCell]) fun b hb hs=>⟨(heap_setCell_other _ _ _ _ hs.2).trans (heap_setCell_other _ _ _ _ hs.2),hs.1⟩
theorem RecsVec.farZ {D Z:Nat} {w:World} {v x y:Value} {R:List RecL} (h:RecsVec w (OffZ D Z) v R):RecsVec ((w.setCell ⟨Z,0,none⟩ x).setCell ⟨Z,1,none⟩ y) (Off D) v R :=
 h.move (by simp [World.setCell]) fun b hb hs=>⟨(heap_setCell_other _ _ _ _ hs.2).trans (heap_setCell_other _ _ _ _ hs.2),hs.1⟩
theorem sls_zero {k:Nat} {α:Type} {enc:α→List Value} {w:World} {S:Nat→Prop} {g n:Nat} {t:TypeId} (hg:w.heap[g]? = some (.cells (List.replicate n (.slice none 0 0)).toArray t (0,0))) (hS:S g):SlsVec k enc w S (.slice (some ⟨g,0,none⟩) n n) (List.replicate n ([]:List α)):=by
 refine ⟨List.replicate n ⟨none,0,0⟩,⟨_,n,by rw [List.length_replicate],by rw [List.length_replicate]; exact Nat.le_refl _,fun h0=>⟨g,0,rfl,hS,zaa hg,fun j x hj i u hu=>?_⟩⟩,by simp,fun m h1 h2=>?_⟩
 ·have hjn:j < n:=by have:=(List.getElem?_eq_some_iff.1 hj).1; simpa using this
  rw [List.getElem?_replicate,if_pos hjn] at hj;cases hj;have hi:i = 0:=by have:=(List.getElem?_eq_some_iff.1 hu).1; simp at this; omega
  subst hi;cases hu;rw [cell_of_row _ _ _ _ _ _ hg,List.getElem?_toArray,List.getElem?_replicate,if_pos (by omega)]
 ·rw [List.getElem_replicate,List.getElem_replicate]
  exact Vec.nil _ _ _ _
end
section
open Go.RowKit
theorem and_1 (m:Nat) (h:m < 18446744073709551616):bits .and .u64 (m:Int) 1 = ((m % 2:Nat):Int):=by
 unfold bits;rw [IntKind.wrap_u64];have e1:(BitVec.ofInt 64 (m:Int)).toNat = m:=by rw [BitVec.toNat_ofInt]; simp; omega
 have e2:(BitVec.ofInt 64 1).toNat = 1:=by decide
 have e3:((BitVec.ofInt 64 (m:Int)) &&& (BitVec.ofInt 64 1)).toNat = m % 2:=by
  rw [BitVec.toNat_and,e1,e2];exact Nat.and_two_pow_sub_one_eq_mod m 1
 show ((((BitVec.ofInt 64 (m:Int)) &&& (BitVec.ofInt 64 1)).toNat:Nat):Int) % _ = _;rw [e3]; omega
theorem nat_beq1 (q:Nat):((q:Int) == 1) = (q == 1):=by rw [Bool.eq_iff_iff]; simp; omega
theorem rhas9_yes (S:Nat→Prop) (v:Value) (b:BitsL) (i:Nat) (w:World) (h:BitsAt w S v b) (hv:zap b = true) (hi:(i:Int) < b.len) (hw:zg4 b.words) :
  Calls prog 82 #[v,.int .i64 i] w fun e w'=>e = .returned (.bool (bitN b.words i == 1))∧Below w.heap.size w w':=by
 obtain ⟨s,rfl,hvs⟩:=h;obtain ⟨a,cap,rfl⟩:=hvs.slice;have hv8:=zcs hv;obtain ⟨len,ws⟩:=b;dsimp only at hvs hi hw hv8 ⊢;have HV:=zjp hvs; have HVb:=zjp hv;have hq:i / 64 < ws.length:=by omega
 obtain ⟨x,hx⟩:∃ x,ws[i / 64] = x:=⟨_,rfl⟩;have hxu:=hw _ (List.getElem_mem hq);rw [hx] at hxu;obtain ⟨t,rfl⟩:∃ t:Nat,x = t:=⟨x.toNat,by omega⟩;have hbit:bitN ws i = t / 2 ^ (i % 64) % 2:=by unfold bitN; rw [za5 _ _ hq,hx,Int.toNat_natCast]
 have hand:bits .and .u64 ((t:Int) / 2 ^ (i % 64)) 1 = ((bitN ws i:Nat):Int):=by
  have e:((t:Int) / 2 ^ (i % 64)) = ((t / 2 ^ (i % 64):Nat):Int):=by simp
  rw [e,and_1 _ (Nat.lt_of_le_of_lt (Nat.div_le_self _ _) (by omega)),hbit]
 obtain ⟨q,hqq⟩:∃ q,bitN ws i = q:=⟨_,rfl⟩;rw [hqq] at hand ⊢;obtain ⟨wn,hwn⟩:∃ n,ws.length = n:=⟨_,rfl⟩;have HWn:=zjp hwn; have HX:=zjp hx;have hqn:i / 64 < wn:=by omega
 rw [hwn] at HV ⊢;have l1:=hv8.1.2.1; have l2:=hv8.1.2.2;clear hv hvs hv8 hw hxu hbit hqq hwn hx;go_enter func82,ntmps82
 go_wp2_with fail
 refine zai (fun W hW=>?_)
 have hb0:=xal hW
 have hx0:W.heap[w.heap.size]? = some (.cells #[.int .i64 len,.slice a wn cap] 56 (0,0)):=by rw [hW]; exact zac rfl
 clear hW;refine (zd9 S _ ⟨len,ws⟩ W ⟨_,rfl,HV.out.below hb0⟩ (by dsimp only; omega) (by dsimp only; omega)).mono ?_;rw [HVb.out];rintro e w1 ⟨rfl,hb⟩;have HB1:=zjp (hb0.trans (hb.mono hb0.size)); have hx1:=zab hb (zaa hx0) hx0;have lx:=zaa hx1;obtain ⟨x0,x1⟩:=zae hx1;have hq':i / 64 < ws.length:=by rw [HWn.out]; exact hqn
 obtain ⟨bb,off,e,lb,hc⟩:=(HV.out.below HB1.out).get (i / 64) hq';cases e;have c0:=hc 0 _ rfl;rw [Nat.mul_one,Nat.add_zero,HX.out] at c0;have d1:decide ((0:Int)≤(i:Int)) = true:=by simp
 have d2:decide ((i:Int) < len) = true:=by simpa using hi
 have ht1:(i:Int).tdiv 64 = ((i / 64:Nat):Int):=by rw [Int.tdiv_eq_ediv_of_nonneg (by omega)]; omega
 have ht2:(i:Int).tmod 64 = ((i % 64:Nat):Int):=by rw [Int.tmod_eq_emod_of_nonneg (by omega)]; omega
 have hdv:(i:Int) / 64 = ((i / 64:Nat):Int):=by omega
 have hmd:(i:Int) % 64 = ((i % 64:Nat):Int):=by omega
 have hqi:((i / 64:Nat):Int) < (wn:Int):=by omega
 obtain ⟨qd,hqd⟩:∃ qd,i / 64 = qd:=⟨_,rfl⟩;obtain ⟨qm,hqm⟩:∃ qm,i % 64 = qm:=⟨_,rfl⟩;rw [hqd] at c0 ht1 hdv hqi;rw [hqm] at ht2 hmd hand;have m64:qm < 64:=by omega
 have hwd:IntKind.i64.wrap (qd:Int) = (qd:Int):=by rw [IntKind.wrap_i64]; omega
 clear hb hb0 hx0 hx1 hc hq' HX hqn;go_wp2_with fail
 go_ret;exact ⟨by first | rfl | (rw [nat_beq1]; done) | (simp [hand,nat_beq1]; done) | (simp only [Ending.returned.injEq,Value.bool.injEq]; exact nat_beq1 _),HB1.out⟩
theorem rcount9_any (S:Nat→Prop) (v:Value) (b:BitsL) (w:World) (h:BitsAt w S v b) (h1:-9223372036854775808≤b.len) (h2:b.len≤9223372036854775807) (hw:zap b = true→zg4 b.words) :
  Calls prog 53 #[v] w fun e w'=>e = .returned (.int .i64 (zcp b))∧Below w.heap.size w w':=by
 obtain ⟨s,rfl,hvs⟩:=h;obtain ⟨a,cap,rfl⟩:=hvs.slice;have HV:=zjp hvs;clear hvs;obtain ⟨r,hr⟩:∃ r,zcp b = r:=⟨_,rfl⟩;rw [hr];obtain ⟨vb,hvb⟩:∃ vb,zap b = vb:=⟨_,rfl⟩;have HVb:=zjp hvb;have HW:=zjp hw;have HR:=zjp hr
 obtain ⟨m,hm⟩:∃ m:Nat,(vb = true→(m:Int) = b.len∧m = 64 * b.words.length∧m≤512)∧(vb = false→m = 0):=by
  cases vb
  ·exact ⟨0,by simp,by simp⟩
  ·have:=zcs hvb; exact ⟨64 * b.words.length,fun _=>⟨by omega,rfl,by omega⟩,by simp⟩
 have HM:=zjp hm;clear hw hr hm;go_enter func53,ntmps53
 go_wp2_with fail
 refine zam (fun W hW=>?_)
 have hb0:=xal hW
 have hx0:W.heap[w.heap.size]? = some (.cells #[.int .i64 b.len,.slice a b.words.length cap] 56 (0,0)):=by rw [hW]; exact zac rfl
 have HB0:=zjp hb0; have HX0:=zjp hx0;have lx0:=zaa hx0;clear hW hb0 hx0 hvb;go_loopw [3,4] (fun c i wr=>Below W.heap.size W wr∧∃ k:Nat,i = .int .i64 k∧k≤m∧∃ q:Nat,c = .int .i64 q∧q≤k∧Hid ((q:Int) = bitsTo b.words k)) (fun _ i _=>m - (intOf i).toNat)
 case atStart=>exact ⟨Below.refl _ _,0,rfl,by omega,0,rfl,by omega,zjp (by rw [bitsTo_zero]; rfl)⟩
 case round =>
  obtain ⟨hbw,k,rfl,hk,q,rfl,hq,HQ⟩:=hrel;have HB:=zjp hbw;have hxr:=zab hbw lx0 HX0.out;have HXr:=zjp hxr;obtain ⟨x0,x1⟩:=zae hxr;have lxr:=zaa hxr;have hat:BitsAt wr S (.agg #[.int .i64 b.len,.slice a b.words.length cap]) b:=⟨_,rfl,(HV.out.below HB0.out).below hbw⟩;have HAt:=zjp hat;clear hat hxr hbw;go_wp2_with fail
  refine (zd9 S _ b wr HAt.out h1 h2).mono ?_;rw [HVb.out];rintro e w1 ⟨rfl,hb1⟩;have HB1:=zjp (HB.out.trans (hb1.mono HB.out.size));have HAt1:=zjp (HAt.out.below hb1);have hxr1:=zab hb1 lxr HXr.out;obtain ⟨y0,y1⟩:=zae hxr1;have lxr1:=zaa hxr1;clear hb1 hxr1 x0 x1;cases vb
  ·have hz:=HM.out.2 rfl
   have hr0:((q:Nat):Int) = r:=by
    rw [← HR.out]; unfold zcp; rw [if_neg (by rw [HVb.out]; simp)]; omega
   have HR0:=zjp hr0;clear hr0;go_wp2_with fail
   go_ret;exact ⟨zic HR0.out,HB0.out.trans (HB1.out.mono HB0.out.size)⟩
  ·obtain ⟨m1,m2,m3⟩:=HM.out.1 rfl
   by_cases hlt:k < m
   ·have hql:decide ((k:Int) < b.len) = true:=by simp; omega
    have hlen:(k:Int) < b.len:=by omega
    have hnx:=bitsTo_next (ws:=b.words) (i:=k) (by omega);rw [← HQ.out] at hnx;obtain ⟨t,ht⟩:∃ t,bitN b.words k = t:=⟨_,rfl⟩;have ht1:=bitN_le b.words k;have hhas:=rhas9_yes S _ b k w1 HAt1.out HVb.out hlen (HW.out HVb.out);rw [ht] at hnx ht1 hhas;have HHas:=zjp hhas; have HNx:=zjp hnx;clear hnx ht hhas m1 m2 HQ;go_wp2_with fail
    refine HHas.out.mono ?_;rintro e w2 ⟨rfl,hb2⟩;have HB2:=zjp (HB1.out.trans (hb2.mono HB1.out.size));clear hb2
    rcases (by omega:t = 0∨t = 1) with rfl | rfl
    ·have dt:((0:Nat) == 1) = false:=rfl
     go_wp2_with fail
     go_roundw
     case rel=>exact ⟨HB2.out,k + 1,by go_num,by omega,q,rfl,by omega,zjp (by have:=HNx.out; omega)⟩
     case measure=>simp [intOf]; omega
    ·have dt:((1:Nat) == 1) = true:=rfl
     go_wp2_with fail
     go_roundw
     case rel=>exact ⟨HB2.out,k + 1,by go_num,by omega,q + 1,by go_num,by omega,zjp (by have:=HNx.out; omega)⟩
     case measure=>simp [intOf]; omega
   ·have hql:decide ((k:Int) < b.len) = false:=by simp; omega
    have hkm:k = 64 * b.words.length:=by omega
    have hr0:((q:Nat):Int) = r:=by
     rw [← HR.out]; unfold zcp; rw [if_pos HVb.out,HQ.out,hkm]; exact bitsTo_all _
    have HR0:=zjp hr0;clear hr0 m1 m2 hkm HQ;go_wp2_with fail
    go_ret;exact ⟨zic HR0.out,HB0.out.trans (HB1.out.mono HB0.out.size)⟩
end
section
open Go.RowKit
def mixW (L A:List Int) (k:Nat):List Int:=L.take k ++ A.drop k
theorem mixW_len {L A:List Int} (h:L.length = A.length) (k:Nat) (hk:k≤A.length):(mixW L A k).length = A.length:=by unfold mixW; simp; omega
theorem mixW_set {L A:List Int} (h:L.length = A.length) (k:Nat) (hk:k < A.length) (hl:k < L.length):(mixW L A k).set k L[k] = mixW L A (k + 1):=by
 unfold mixW;rw [List.set_append_right _ _ (by simp; omega)];have e2:k - (L.take k).length = 0:=by simp; omega
 rw [e2,List.drop_eq_getElem_cons hk,List.set_cons_zero,List.take_succ_eq_append_getElem hl,List.append_assoc];rfl
theorem mixW_get {L A:List Int} (h:L.length = A.length) (k:Nat) (hk:k < A.length):(mixW L A k).getD k 0 = A[k]:=by
 unfold mixW;rw [List.getD,List.getElem?_append_right (by simp; omega)];have e2:k - (L.take k).length = 0:=by simp; omega
 rw [e2,List.getElem?_drop,Nat.add_zero,List.getElem?_eq_getElem hk]; rfl
structure MixAt (w:World) (lb:Int) (sb:Value) (B:List Int) (gw cp c8 n:Nat) (W:List Int) (wr:World):Prop where
 hb:wr.heap[w.heap.size + 1]? = some (.cells #[.int .i64 lb,sb] 56 (0,0))
 hr:wr.heap[w.heap.size + 2]? = some (.cells #[.int .i64 0,.slice none 0 0] 56 (0,0))
 hc:wr.heap[c8]? = some (.cells #[.int .i64 lb,.slice (some ⟨gw,0,none⟩) n cp] 56 (0,0))
 hw:wr.ownsRow w.heap.size 39 1 (.slice (some ⟨gw,0,none⟩) n cp) n (W.flatMap zc2)
 ne:w.heap.size + 2 < gw∧w.heap.size + 2 < c8∧gw≠c8
 vb:Vec wr (fun x=>x≠gw) 1 zc2 sb B
 b:Below w.heap.size w wr
theorem MixAt.set {w:World} {lb:Int} {sb:Value} {B:List Int} {gw cp c8 n:Nat} {W:List Int} {wr:World} (h:MixAt w lb sb B gw cp c8 n W wr) (q:Nat) (x:Int):MixAt w lb sb B gw cp c8 n (W.set q x) (wr.setCell ⟨gw,q,none⟩ (.int .u64 x)):=by
 obtain ⟨n1,n2,n3⟩:=h.ne;exact ⟨zan h.hb (by show w.heap.size + 1≠gw; omega),zan h.hr (by show w.heap.size + 2≠gw; omega),zan h.hc (Ne.symm n3),own_setU h.hw rfl q x,h.ne,h.vb.far fun b hb=>hb,h.b.setCell (p:=⟨gw,q,none⟩) (by show w.heap.size≤gw; omega) _⟩
theorem MixAt.below {w:World} {lb:Int} {sb:Value} {B:List Int} {gw cp c8 n:Nat} {W:List Int} {wr wx:World} (h:MixAt w lb sb B gw cp c8 n W wr) (hb:Below wr.heap.size wr wx):MixAt w lb sb B gw cp c8 n W wx :=
 ⟨zab hb (zaa h.hb) h.hb,zab hb (zaa h.hr) h.hr,zab hb (zaa h.hc) h.hc,zcb h.hw hb,h.ne,h.vb.below hb,h.b.trans (hb.mono h.b.size)⟩
theorem rcombine_and (S T:Nat→Prop) (u v:Value) (a b:BitsL) (w:World) (hu:BitsAt w S u a) (hv:BitsAt w T v b) (a1:-9223372036854775808≤a.len) (a2:a.len≤9223372036854775807) (b1:-9223372036854775808≤b.len) (b2:b.len≤9223372036854775807) :
  Calls prog 81 #[u,v,.int .i64 0] w (zfv a b w):=by
 obtain ⟨sa,rfl,hva⟩:=hu;obtain ⟨sb,rfl,hvb⟩:=hv;obtain ⟨aa,ca,rfl⟩:=hva.slice;obtain ⟨ab,cb,rfl⟩:=hvb.slice;have HVA:=zjp hva.any; have HVB:=zjp hvb.any;obtain ⟨la,A⟩:=a; obtain ⟨lb,B⟩:=b;dsimp only at HVA HVB a1 a2 b1 b2;obtain ⟨PP,hPP⟩:∃ PP,zfv ⟨la,A⟩ ⟨lb,B⟩ w = PP:=⟨_,rfl⟩;rw [hPP];have HPP:=zjp hPP;clear hva hvb hPP;obtain ⟨na,hna⟩:∃ n,A.length = n:=⟨_,rfl⟩;obtain ⟨nb,hnb⟩:∃ n,B.length = n:=⟨_,rfl⟩;have HNa:=zjp hna; have HNb:=zjp hnb;dsimp only;rw [hna] at HVA ⊢; rw [hnb] at HVB ⊢;clear hna hnb;go_enter func81,ntmps81
 go_wp2_with fail
 refine zai (fun W hW=>?_)
 have hb0:Below w.heap.size w W:=by rw [hW]; exact (((Below.refl _ _).alloc xnl _).alloc (by simp) _).alloc (by simp; omega) _
 have ha0:W.heap[w.heap.size]? = some (.cells #[.int .i64 la,.slice aa na ca] 56 (0,0)):=by rw [hW]; exact zaf (zaf (zac rfl))
 have hB0:W.heap[w.heap.size + 1]? = some (.cells #[.int .i64 lb,.slice ab nb cb] 56 (0,0)):=by rw [hW]; exact zaf (zac (by simp))
 have hr0:W.heap[w.heap.size + 2]? = some (.cells #[.int .i64 0,.slice none 0 0] 56 (0,0)):=by rw [hW]; exact zac (by simp)
 clear hW;have hva':BitsAt W zav (.agg #[.int .i64 la,.slice aa na ca]) ⟨la,A⟩:=⟨_,rfl,HVA.out.below hb0⟩;refine (zd9 zav _ ⟨la,A⟩ W hva' a1 a2).mono ?_;obtain ⟨va,hva⟩:∃ b,zap ⟨la,A⟩ = b:=⟨_,rfl⟩;rw [hva];rintro e w1 ⟨rfl,hb⟩;have HVa:=zjp hva;have HB1:=zjp (hb0.trans (hb.mono hb0.size)); have HA1:=zjp (zab hb (zaa ha0) ha0); have HC1:=zjp (zab hb (zaa hB0) hB0); have HR1:=zjp (zab hb (zaa hr0) hr0);have lA:=zaa HA1.out; have lC:=zaa HC1.out; have lR:=zaa HR1.out;obtain ⟨x0,x1⟩:=zae HA1.out; obtain ⟨y0,y1⟩:=zae HC1.out; obtain ⟨r0,r1⟩:=zae HR1.out;have f0:=frozen_of_row _ _ 0 _ _ HR1.out; have f1:=frozen_of_row _ _ 1 _ _ HR1.out;clear hb hb0 ha0 hB0 hr0 hva' hva;cases va
 ·have HNo:=zjp (zgs (a:=⟨la,A⟩) (b:=⟨lb,B⟩) (by rw [HVa.out]; simp))
  go_wp2_with fail
  refine zah rfl rfl (zad (i:=1) (zad (i:=0) HR1.out)) underlying56 rfl (by kernel_rfl) ?_;rw [← HPP.out];exact ⟨_,by rw [HNo.out]; rfl,by rw [HNo.out]; exact BitsAt.none _ _,(HB1.out.setCell (p:=⟨w.heap.size + 1 + 1,0,none⟩) (by simp; omega) _).setCell (p:=⟨w.heap.size + 1 + 1,1,none⟩) (by simp; omega) _⟩
 ·go_wp2_with fail
  refine (zd9 zav _ ⟨lb,B⟩ w1 ⟨_,rfl,HVB.out.below HB1.out⟩ b1 b2).mono ?_;obtain ⟨vb,hvb⟩:∃ b,zap ⟨lb,B⟩ = b:=⟨_,rfl⟩;rw [hvb];rintro e w2 ⟨rfl,hb⟩;have HVb:=zjp hvb;have HB2:=zjp (HB1.out.trans (hb.mono HB1.out.size)); have HA2:=zjp (zab hb lA HA1.out); have HC2:=zjp (zab hb lC HC1.out); have HR2:=zjp (zab hb lR HR1.out);clear hb x0 x1 y0 y1 r0 r1 f0 f1 HB1 HA1 HC1 HR1 lA lC lR hvb;have lA:=zaa HA2.out; have lC:=zaa HC2.out; have lR:=zaa HR2.out;obtain ⟨x0,x1⟩:=zae HA2.out; obtain ⟨y0,y1⟩:=zae HC2.out; obtain ⟨r0,r1⟩:=zae HR2.out;have f0:=frozen_of_row _ _ 0 _ _ HR2.out; have f1:=frozen_of_row _ _ 1 _ _ HR2.out;cases vb
  ·have HNo:=zjp (zgs (a:=⟨la,A⟩) (b:=⟨lb,B⟩) (by rw [HVb.out]; simp))
   go_wp2_with fail
   refine zah rfl rfl (zad (i:=1) (zad (i:=0) HR2.out)) underlying56 rfl (by kernel_rfl) ?_;rw [← HPP.out];exact ⟨_,by rw [HNo.out]; rfl,by rw [HNo.out]; exact BitsAt.none _ _,(HB2.out.setCell (p:=⟨w.heap.size + 1 + 1,0,none⟩) (by simp; omega) _).setCell (p:=⟨w.heap.size + 1 + 1,1,none⟩) (by simp; omega) _⟩
  ·by_cases hl:la = lb
   rotate_left
   ·have d0:(la != lb) = true:=by simpa using hl
    have HNo:=zjp (zgs (a:=⟨la,A⟩) (b:=⟨lb,B⟩) (fun h=>hl h.2.2))
    clear hl;go_wp2_with fail
    refine zah rfl rfl (zad (i:=1) (zad (i:=0) HR2.out)) underlying56 rfl (by kernel_rfl) ?_;rw [← HPP.out];exact ⟨_,by rw [HNo.out]; rfl,by rw [HNo.out]; exact BitsAt.none _ _,(HB2.out.setCell (p:=⟨w.heap.size + 1 + 1,0,none⟩) (by simp; omega) _).setCell (p:=⟨w.heap.size + 1 + 1,1,none⟩) (by simp; omega) _⟩
   ·subst hl
    have d0:(la != la) = false:=by simp
    have e8:=zcs HVa.out; have e8b:=zcs HVb.out;dsimp only at e8 e8b;have hnn:nb = na:=by have:=HNa.out; have:=HNb.out; omega
    subst hnn;have hn8:nb≤8:=by have:=HNb.out; omega
    have hn1:1≤nb:=by have:=HNb.out; omega
    have HSo:=zjp (andB_some (a:=⟨la,A⟩) (b:=⟨la,B⟩) ⟨HVa.out,HVb.out,rfl⟩);have hLl:(zh7 A B).length = nb:=by rw [andL_len (by rw [HNa.out,HNb.out])]; exact HNa.out
    have HLl:=zjp hLl;clear e8 e8b hLl;go_wp2_with fail
    have hcp:=rcopy9_any zav (.agg #[.int .i64 la,.slice aa nb ca]) ⟨la,A⟩ w2 ⟨_,rfl,HVA.out.below HB2.out⟩ (by dsimp only; have:=HNa.out; omega);refine hcp.mono ?_;clear hcp;rintro e w3 ⟨v',rfl,ho⟩;dsimp only at ho ⊢
    rcases ho.form with ⟨_,h0⟩ | ⟨g,cp,hv',hcp,hcm,lg⟩
    ·have:=HNa.out; rw [h0] at this; simp at this; omega
    have hAn:A.length = nb:=HNa.out;rw [hAn] at hcp hv';subst hv';have hgB:w2.heap.size≤g:=(World.ownsRow.lt ho.1 g rfl).1;have ho1:=ho.1;rw [hAn] at ho1;have HO3:=zjp ho1;have HB3:=zjp (HB2.out.trans (ho.2.mono HB2.out.size)); have HC3:=zjp (zab ho.2 lC HC2.out); have HR3:=zjp (zab ho.2 lR HR2.out);have hVB3:=(HVB.out.below HB2.out);have hVB4:Vec w3 (fun x=>x < w2.heap.size) 1 zc2 (.slice ab nb cb) B:=(hVB3.move (S':=fun x=>x < w2.heap.size) xnl fun b hb _=>⟨rfl,hb⟩).below ho.2
    have HVB4:=zjp hVB4;have z23:=ho.2.size;clear ho ho1 hAn hVB3 hVB4 x0 x1 y0 y1 r0 r1 f0 f1 hcm hcp;go_wp2_with fail
    refine zam (fun W0 hW0=>?_)
    obtain ⟨c8,hc8⟩:∃ c,w3.heap.size = c:=⟨_,rfl⟩;rw [hc8] at lg ⊢;have b30:=xal hW0
    have h80:W0.heap[c8]? = some (.cells #[.int .i64 la,.slice (some ⟨g,0,none⟩) nb cp] 56 (0,0)):=by rw [hW0]; exact zac hc8.symm
    have HM0:=zjp (show MixAt w la (.slice ab nb cb) B g cp c8 nb (mixW (zh7 A B) A 0) W0 from
     ⟨zab b30 (zaa HC3.out) HC3.out,zab b30 (zaa HR3.out) HR3.out,h80,by
      refine zcb ?_ b30;have h:=HO3.out;refine ⟨h.1,?_⟩
      rcases h.2 with h0 | ⟨g',cap',cur,hv,hB,rest⟩
      ·exact .inl h0
      ·exact .inr ⟨g',cap',cur,hv,by have:=HB2.out.size; omega,rest⟩,⟨by omega,by omega,by omega⟩,(HVB4.out.below b30).move xnl (fun b _ hb=>⟨rfl,by have hb':b < w2.heap.size:=hb; show b≠g; omega⟩),HB3.out.trans (b30.mono HB3.out.size)⟩)
    have HL0:=HLl;have HNA:=zjp (show A.length = nb from HNa.out); have HNB:=zjp (show B.length = nb from HNb.out);clear hW0 b30 h80 HB3 HC3 HR3 HO3 HVB4 HA2 HB2 HC2 HR2 lA lC lR HLl HNa HNb HVA HVB lg hgB z23;go_loopw [9] (fun i wr=>∃ k:Nat,k≤nb∧i = .int .i64 k∧MixAt w la (.slice ab nb cb) B g cp c8 nb (mixW (zh7 A B) A k) wr) (fun i _=>nb - (intOf i).toNat)
    case atStart=>exact ⟨0,by omega,rfl,HM0.out⟩
    case round =>
     obtain ⟨k,hk,rfl,hbt⟩:=hrel;obtain ⟨WR,hWR⟩:∃ u,u = wr:=⟨_,rfl⟩;subst hWR;have HBk:=zjp hbt;obtain ⟨d0',d1'⟩:=zae hbt.hc;have lc8:=zaa hbt.hc;by_cases hlt:k < nb
     ·have hq:decide ((k:Int) < nb) = true:=by simp; omega
      have hkA:k < A.length:=by rw [HNA.out]; exact hlt
      have hkB:k < B.length:=by rw [HNB.out]; exact hlt
      have hkL:k < (zh7 A B).length:=by rw [HL0.out]; exact hlt
      have hki:(k:Int) < (nb:Int):=by omega
      have hAL:(zh7 A B).length = A.length:=by rw [HL0.out,HNA.out]
      obtain ⟨b2',off2,e2,lb2,hc2⟩:=hbt.vb.get k hkB;cases e2;have cb0:=hc2 0 _ rfl;rw [Nat.mul_one,Nat.add_zero] at cb0;have hset:=mixW_set hAL k hkA hkL;have hgetA:=mixW_get hAL k hkA;have hget:=andL_get (A:=A) (B:=B) k hkA hkB hkL
      have hvec:Vec WR zav 1 zc2 (.slice (some ⟨g,0,none⟩) nb cp) (mixW (zh7 A B) A k):=by
       have h:=hbt.hw;have hl:=mixW_len hAL k (by omega);rw [HNA.out] at hl;rw [← hl] at h;have h2:=Vec.owns (k:=1) (enc:=zc2) (S:=zav) (fun _=>rfl) h fun _ _ _=>trivial
       rw [hl] at h2; exact h2
      obtain ⟨b3',off3,e3,lb3,hc3⟩:=hvec.get k (by rw [mixW_len hAL k (by omega)]; exact hkA);cases e3;have ca0:=hc3 0 _ rfl;rw [Nat.mul_one,Nat.add_zero,Nat.zero_add] at ca0;have hgetA2:(mixW (zh7 A B) A k)[k]'(by rw [mixW_len hAL k (by omega)]; exact hkA) = A[k]:=by rw [← hgetA]; exact (za5 _ _ _).symm
      rw [hgetA2] at ca0;obtain ⟨x,hx⟩:∃ x,A[k] = x:=⟨_,rfl⟩;obtain ⟨y,hy⟩:∃ y,B[k] = y:=⟨_,rfl⟩;rw [hx,hy] at hget;rw [hx] at ca0; rw [hy] at cb0;rw [hget] at hset;have HSet:=zjp hset;obtain ⟨b0,b1'⟩:=zae hbt.hb
      obtain ⟨cur,hcur⟩:∃ cur,WR.heap[g]? = some (.cells cur 39 (0,0)):=by
       rcases hbt.hw.2 with ⟨e,_⟩ | ⟨g',cap',cur,e,_,hh,_⟩
       ·cases e
       ·cases e; exact ⟨cur,hh⟩
      have fw:=frozen_of_row _ _ k _ _ hcur;have lgw:=zaa hcur; have lb8:=zaa hbt.hb;have hS:=zjp (hbt.set k (andW x y));have HS2:=zjp (show bits .and .u64 x y = andW x y from rfl);have dk:((0:Int) == 0) = true:=rfl;clear hc2 hc3 hx hy hget hset hbt hkA hkB hkL hAL hgetA hgetA2 hvec hcur HM0;go_wp2_with fail
      refine wp_region_noPanic ?_
      refine zat (by kernel_rfl) (fun w'=>w'.cell? ⟨c8,1,none⟩ = some (.slice (some ⟨g,0,none⟩) nb cp)∧w'.cell? ⟨w.heap.size + 1,1,none⟩ = some (.slice (some ⟨b2',off2,none⟩) nb cb)∧w'.cell? ⟨b2',off2 + k,none⟩ = some (.int .u64 y)∧w'.cell? ⟨g,k,none⟩ = some (.int .u64 x)) 12 (⟨d1',b1',cb0,ca0⟩) (fun hHeld=>?_)
      refine tK 0 (h:=?_);refine tK 1 (h:=?_);refine tK 2 (h:=?_);refine tK 3 (h:=?_);refine tK 4 (h:=?_);refine tK 5 (h:=?_);refine tK 6 (h:=?_);refine tK 7 (h:=?_);refine tK 8 (h:=?_);refine tK 9 (h:=?_);refine tK 10 (h:=?_);refine tK 11 (h:=?_)
      refine xrK 12 rfl fun K hK=>?_
      go_simp;refine zas hK (by decide) ?_;clear hK K;refine zar (by kernel_rfl) ?_ _;refine NoPanic.normal ?_;go_wp2_with fail
      go_roundw
      case rel=>exact ⟨k + 1,by omega,by go_num,by rw [← HSet.out]; exact hS.out.below (Below.refl _ _).drew⟩
      case measure=>simp [intOf]; omega
     ·have hq:decide ((k:Int) < nb) = false:=by simp; omega
      have hfin:mixW (zh7 A B) A k = zh7 A B:=by
       unfold mixW;rw [List.take_of_length_le (by rw [HL0.out]; omega),List.drop_eq_nil_of_le (by rw [HNA.out]; omega),List.append_nil]
      rw [hfin] at HBk;obtain ⟨r0,r1⟩:=zae HBk.out.hr;have f0:=frozen_of_row _ _ 0 _ _ HBk.out.hr; have f1:=frozen_of_row _ _ 1 _ _ HBk.out.hr;have lr8:=zaa HBk.out.hr;clear hbt hfin HM0;go_wp2_with fail
      refine zah rfl rfl (zad (i:=1) (zad (i:=0) HBk.out.hr)) underlying56 rfl (by kernel_rfl) ?_;rw [← HPP.out];have hne:=HBk.out.ne;refine ⟨_,by rw [HSo.out]; rfl,?_,(HBk.out.b.setCell (p:=⟨w.heap.size + 2,0,none⟩) (by simp) _).setCell (p:=⟨w.heap.size + 2,1,none⟩) (by simp) _⟩;rw [HSo.out];refine ⟨_,rfl,?_⟩
      have h3:(((WR.setCell ⟨w.heap.size + 2,0,none⟩ (.int .i64 la)).setCell ⟨w.heap.size + 2,1,none⟩ (.slice (some ⟨g,0,none⟩) nb cp))).ownsRow w.heap.size 39 1 (.slice (some ⟨g,0,none⟩) nb cp) nb ((zh7 A B).flatMap zc2) :=
       zc7 (r:=some (w.heap.size + 2)) HBk.out.hw (fun k o hne2 hk'=>zan (zan hk' (fun e=>hne2 (by rw [e]))) (fun e=>hne2 (by rw [e]))) (.inr (by simp [Value.ownBlock]; omega))
      have hl:=HL0.out;rw [← hl] at h3;have h2:=Vec.owns (k:=1) (enc:=zc2) (S:=fun x=>w.heap.size≤x) (fun _=>rfl) h3 fun b hb _=>hb
      rw [hl] at h2; exact h2
theorem rand9_any (S T:Nat→Prop) (u v:Value) (a b:BitsL) (w:World) (hu:BitsAt w S u a) (hv:BitsAt w T v b) (ha:InI a.len) (hbI:InI b.len) :
  Calls prog 52 #[u,v] w (zfv a b w):=by
 obtain ⟨sa,rfl,hva⟩:=hu;obtain ⟨sb,rfl,hvb⟩:=hv;have HVA:=zjp hva; have HVB:=zjp hvb;clear hva hvb;obtain ⟨er,her⟩:∃ er:Int,(if (andB a b).isSome = true then 0 else 8) = er:=⟨_,rfl⟩;obtain ⟨x,hx⟩:∃ x,(andB a b).getD zbg = x:=⟨_,rfl⟩;unfold zfv;rw [her,hx];have HEr:=zjp her; have HX:=zjp hx;clear her hx;go_enter func52,ntmps52
 go_wp2_with fail
 refine zai (fun W hW=>?_)
 have hb0:Below w.heap.size w W:=by rw [hW]; exact (((Below.refl _ _).alloc xnl _).alloc (by simp) _).alloc (by simp; omega) _
 have hr0:W.heap[w.heap.size + 1 + 1]? = some (.cells #[.int .i64 0,.slice none 0 0] 56 (0,0)):=by rw [hW]; exact zac (by simp)
 clear hW;refine (rcombine_and S T _ _ a b W ⟨_,rfl,HVA.out.below hb0⟩ ⟨_,rfl,HVB.out.below hb0⟩ ha.1 ha.2 hbI.1 hbI.2).mono ?_;rintro e w1 ⟨_,rfl,⟨s1,rfl,hv1⟩,hb⟩;rw [HX.out] at hv1;rw [HEr.out,HX.out];obtain ⟨a1,c1,rfl⟩:=hv1.slice;have lr0:=zaa hr0;have HR1:=zjp (zab hb lr0 hr0);have HB1:=zjp (hb0.trans (hb.mono hb0.size));obtain ⟨n,hn⟩:∃ n,x.words.length = n:=⟨_,rfl⟩;rw [hn] at hv1 ⊢;have HV1:=zjp (hv1.move (w':=w1) (S':=fun q=>w.heap.size≤q∧q≠w.heap.size + 1 + 1) xnl fun q _ h=>⟨rfl,by have h':W.heap.size≤q:=h; omega⟩)
 obtain ⟨r0,r1⟩:=zae HR1.out;have f0:=frozen_of_row _ _ 0 _ _ HR1.out; have f1:=frozen_of_row _ _ 1 _ _ HR1.out;have lR:=zaa HR1.out;dsimp only;clear hv1 hb hb0 hr0 lr0 hn;go_wp2_with fail
 refine zah rfl rfl (zad (i:=1) (zad (i:=0) HR1.out)) underlying56 rfl (by kernel_rfl) ?_;refine ⟨_,rfl,⟨_,rfl,?_⟩,(HB1.out.setCell (p:=⟨w.heap.size + 1 + 1,0,none⟩) (by show w.heap.size≤w.heap.size + 1 + 1; omega) _).setCell (p:=⟨w.heap.size + 1 + 1,1,none⟩) (by show w.heap.size≤w.heap.size + 1 + 1; omega) _⟩;exact ((HV1.out.far (fun q h=>h.2)).far (fun q h=>h.2)).move xnl fun q _ h=>⟨rfl,h.1⟩
end
section
open Go.RowKit
def zip:List BitsL→Option (Option BitsL)
 | []=>none
 | b :: r=>some (zep b r)
theorem alwSt_no {L:List BitsL} {k:Nat} (h:k < L.length) (hv:zap L[k] = false):zip ((L.take (k + 1)).filter zap) = zip ((L.take k).filter zap):=by
 rw [List.take_succ_eq_append_getElem h,List.filter_append]; simp [hv]
theorem alwSt_yes {L:List BitsL} {k:Nat} (h:k < L.length) (hv:zap L[k] = true):zip ((L.take (k + 1)).filter zap) = match zip ((L.take k).filter zap) with
  | none=>some (some L[k])
  | some r=>some (r.bind fun x=>andB x L[k]):=by
 rw [List.take_succ_eq_append_getElem h,List.filter_append];simp only [List.filter_cons,hv,if_true,List.filter_nil];cases hc:(L.take k).filter zap with
 | nil=>rfl
 | cons b r=>simp only [List.cons_append,zip]; rw [zin]
theorem always_st (L:List BitsL):zbw L = match zip (L.filter zap) with
  | none=>0
  | some none=>0
  | some (some x)=>zcp x:=by
 unfold zbw;cases L.filter zap with
 | nil=>rfl
 | cons b r=>simp only [zip]; cases zep b r <;> rfl
theorem always_dead {L:List BitsL} {k:Nat} (h:zip ((L.take k).filter zap) = some none):zbw L = 0:=by
 rw [always_st];have e:L.filter zap = (L.take k).filter zap ++ (L.drop k).filter zap:=by rw [← List.filter_append,List.take_append_drop]
 rw [e];cases hc:(L.take k).filter zap with
 | nil=>rw [hc] at h; cases h
 | cons b r =>
  rw [hc] at h;have h2:zep b r = none:=by simpa [zip] using h
  simp only [List.cons_append,zip,zio _ _ _ h2]
theorem bits_far2 {W:World} {A Y:Nat} {u v x:Value} {b:BitsL} (h:BitsAt W (fun q=>q≠A∧q≠Y) x b):BitsAt ((W.setCell ⟨Y,0,none⟩ u).setCell ⟨Y,1,none⟩ v) (fun q=>q≠A∧q≠Y) x b:=by
 obtain ⟨s,e,hv⟩:=h;exact ⟨s,e,(hv.far fun q h=>h.2).far fun q h=>h.2⟩
theorem ralways_any (S:Nat→Prop) (v:Value) (L:List BitsL) (w:World) (h:BitsVec w S v L) (hi:∀ b∈L,InI b.len) (hw:∀ b∈L,zap b = true→zg4 b.words) (hn:L.length≤1000000) :
  Calls prog 20 #[v] w fun e w'=>e = .returned (.int .i64 (zbw L))∧Below w.heap.size w w':=by
 obtain ⟨a,cap,rfl⟩:=h.slice;have HI:=zjp hi; have HWd:=zjp hw;have HV:=zjp (h.move (T:=zav) xnl fun _ _ _=>⟨rfl,trivial⟩)
 have HF:=zjp (show ∀ r:Int,zbw L = r→Ending.returned (.int .i64 r) = .returned (.int .i64 (zbw L)) from fun r h=>by rw [h])
 clear h hi hw;obtain ⟨n,hln⟩:∃ n,L.length = n:=⟨_,rfl⟩;have HN:=zjp hln;rw [hln] at HV hn ⊢;clear hln;go_enter func20,ntmps20
 go_wp2_with fail
 refine zam (fun W3 hW3=>?_)
 have b3:=xal hW3
 have g3:W3.heap[w.heap.size]? = some (.cells #[.int .i64 0,.slice none 0 0] 56 (0,0)):=by rw [hW3]; exact zac rfl
 clear hW3;obtain ⟨A,hA⟩:∃ A,w.heap.size = A:=⟨_,rfl⟩;have HVA:=zjp (show BitsVec w (fun q=>q≠A) (.slice a n cap) L from HV.out.move (T:=fun q=>q≠A) xnl fun q hq _=>⟨rfl,by show q≠A; omega⟩)
 have HG3:=zjp (show W3.heap[A]? = some (.cells #[.int .i64 0,.slice none 0 0] 56 (0,0)) by rw [← hA]; exact g3);have HB3:=zjp b3;have HAe:=zjp hA;rw [hA];clear g3 b3 hA HV;go_loopw [4,5,6,7] (fun f i _ _ wr=>∃ k:Nat,k≤n∧i = .int .i64 k∧∃ (x:BV) (X:BitsL) (fb:Bool),f = .bool fb∧wr.heap[A]? = some (.cells (za3 x).toArray 56 (0,0))∧BitsAt wr (fun q=>q≠A) (.agg (za3 x).toArray) X∧Hid (zip ((L.take k).filter zap) = (if fb = true then some (some X) else none)∧InI X.len∧(zap X = true→zg4 X.words)∧(fb = false→X = zbg))∧Below w.heap.size w wr) (fun _ i _ _ _=>n - (intOf i).toNat)
 case atStart=>exact ⟨0,by omega,rfl,⟨0,none,0,0⟩,zbg,false,rfl,HG3.out,BitsAt.none _ _,zjp ⟨by simp [zip],⟨by decide,by decide⟩,fun h=>(by rw [zgj] at h; cases h),fun _=>rfl⟩,HB3.out⟩
 case round =>
  obtain ⟨k,hk,rfl,⟨yl,ya,yn,yc⟩,X,fb,rfl,hgA,hX,HAnd,hbw⟩:=hrel;obtain ⟨WR,hWR⟩:∃ u,u = wr:=⟨_,rfl⟩;subst hWR;have HGA:=zjp hgA; have HX:=zjp hX; have HBw:=zjp hbw;have lA:=zaa hgA;by_cases hlt:k < n
  ·have hq:decide ((k:Int) < n) = true:=by simp; omega
   have hki:(k:Int) < (n:Int):=by omega
   have hkL:k < L.length:=by rw [HN.out]; exact hlt
   obtain ⟨b',off',⟨zl,za,zn,zc⟩,e',lb',z0,z1,hz⟩:=(HVA.out.below hbw).at k hkL;cases e';dsimp only at z0 z1;rw [za5 _ _ hkL] at hz;have hno:=alwSt_no hkL; have hye:=alwSt_yes hkL; have hdead:=@always_dead L (k + 1);have hIk:=HI.out _ (List.getElem_mem hkL); have hWk:=HWd.out _ (List.getElem_mem hkL);obtain ⟨Z,hZ⟩:∃ Z,L[k] = Z:=⟨_,rfl⟩;rw [hZ] at hz hno hye hIk hWk;have HZ:=zjp hz; have HNo:=zjp hno; have HYe:=zjp hye; have HIk:=zjp hIk; have HWk:=zjp hWk; have HDead:=zjp hdead;have hvz:=zd9 (fun q=>q≠A) _ Z WR hz hIk.1 hIk.2
   obtain ⟨vb,hvb⟩:∃ vb,zap Z = vb:=⟨_,rfl⟩;rw [hvb] at hvz;have HVz:=zjp hvz; have HVb:=zjp hvb;clear hz hno hye hIk hWk hdead hZ hvz hvb hgA hX hbw;go_wp2_with fail
   refine HVz.out.mono ?_;rintro e w1 ⟨rfl,hb1⟩;have HB1:=zjp hb1;have HBw1:=zjp (HBw.out.trans (hb1.mono HBw.out.size));have HGA1:=zjp (zab hb1 lA HGA.out); have HX1:=zjp (HX.out.below hb1); have HZ1:=zjp (HZ.out.below hb1);have c0:=(hb1.cell (p:=⟨b',off' + k * 2,none⟩) lb').trans z0;have c1:=(hb1.cell (p:=⟨b',off' + k * 2 + 1,none⟩) lb').trans z1;have lb1:b' < w1.heap.size:=Nat.lt_of_lt_of_le lb' hb1.size;have lA1:=zaa HGA1.out;clear hb1 z0 z1 lb' lA;cases vb
   ·go_wp2_with fail
    go_roundw
    case rel=>exact ⟨k + 1,by omega,by go_num,⟨yl,ya,yn,yc⟩,X,fb,rfl,HGA1.out,HX1.out,zjp ⟨by rw [HNo.out HVb.out]; exact HAnd.out.1,HAnd.out.2⟩,HBw1.out⟩
    case measure=>simp [intOf]; omega
   ·have hye:=HYe.out HVb.out
    rw [HAnd.out.1] at hye;cases fb
    ·have HYe2:=zjp (show zip ((L.take (k + 1)).filter zap) = some (some Z) from hye)
     have f0:=frozen_of_row _ _ 0 _ _ HGA1.out; have f1:=frozen_of_row _ _ 1 _ _ HGA1.out;obtain ⟨a0,a1⟩:=zae HGA1.out;clear hye;go_wp2_with fail
     have hW:∀ W6,W6 = ((w1.setCell ⟨A,0,none⟩ (.int .i64 zl)).setCell ⟨A,1,none⟩ (.slice za zn zc)) →
       W6.heap[A]? = some (.cells (za3 ⟨zl,za,zn,zc⟩).toArray 56 (0,0))∧BitsAt W6 (fun q=>q≠A) (.agg (za3 ⟨zl,za,zn,zc⟩).toArray) Z∧Below w.heap.size w W6:=by
      intro W6 hW6;have hAe:=HAe.out;refine ⟨by rw [hW6]; exact two_set HGA1.out (.int .i64 zl) (.slice za zn zc),?_,by rw [hW6]; exact (HBw1.out.setCell (p:=⟨A,0,none⟩) (by show w.heap.size≤A; omega) _).setCell (p:=⟨A,1,none⟩) (by show w.heap.size≤A; omega) _⟩;obtain ⟨s,e,hv⟩:=HZ1.out
      refine ⟨s,e,hv.move (S':=fun q=>q≠A) (by rw [hW6]; simp [World.setCell]) fun q hq hqA=>⟨?_,hqA⟩⟩
      rw [hW6,Below.heap_setCell _ _ _ _ hqA,Below.heap_setCell _ _ _ _ hqA]
     have HW:=zjp (hW _ rfl);clear hW a0 a1 f0 f1;go_roundw
     case rel=>exact ⟨k + 1,by omega,by go_num,⟨zl,za,zn,zc⟩,Z,true,rfl,HW.out.1,HW.out.2.1,zjp ⟨HYe2.out,HIk.out,HWk.out,fun h=>by cases h⟩,HW.out.2.2⟩
     case measure=>simp [intOf]; omega
    ·have hye2:zip ((L.take (k + 1)).filter zap) = some (andB X Z):=hye
     obtain ⟨P,hP⟩:∃ P,andB X Z = P:=⟨_,rfl⟩;have hra:=fun (W:World) (hb:Below w1.heap.size w1 W)=>rand9_any (fun q=>q≠A) (fun q=>q≠A) _ _ X Z W (HX1.out.below hb) (HZ1.out.below hb) HAnd.out.2.1 HIk.out
     unfold zfv at hra;rw [hP] at hra hye2;have HP:=zjp hP; have HRa:=zjp hra; have HYe2:=zjp hye2;obtain ⟨er,her⟩:∃ er:Int,(if P.isSome = true then 0 else 8) = er:=⟨_,rfl⟩;rw [her] at HRa;have HEr:=zjp her;obtain ⟨a0,a1⟩:=zae HGA1.out;clear hye hye2 hP hra her;go_wp2_with fail
     go_cut [6,7] (fun s6 s7 wx=>∃ (Y:Nat) (p:BV),s6 = .pointer (some ⟨Y,0,none⟩)∧s7 = .int .i64 er∧Y≠A∧wx.heap[Y]? = some (.cells (za3 p).toArray 56 (0,0))∧wx.heap[A]? = some (.cells #[.int .i64 yl,.slice ya yn yc] 56 (0,0))∧BitsAt wx (fun q=>q≠A∧q≠Y) (.agg (za3 p).toArray) (P.getD zbg)∧Below w1.heap.size w1 wx)
     case first =>
      refine wp_region_noPanic ?_
      refine wp_region_held_drew (S:=(fun w'=>(w'.cell? ⟨A,0,none⟩ = some (.int .i64 yl)∧w'.cell? ⟨A,1,none⟩ = some (.slice ya yn yc))∧w'.cell? ⟨b',off' + k * 2,none⟩ = some (.int .i64 zl)∧w'.cell? ⟨b',off' + k * 2 + 1,none⟩ = some (.slice za zn zc))) (by kernel_rfl) (⟨⟨a0,a1⟩,c0,c1⟩) (fun hHeld=>?_)
      have HS:=zjp (show ∀ W,Below w1.heap.size w1 W→(W.cell? ⟨A,0,none⟩ = some (.int .i64 yl)∧W.cell? ⟨A,1,none⟩ = some (.slice ya yn yc))∧W.cell? ⟨b',off' + k * 2,none⟩ = some (.int .i64 zl)∧W.cell? ⟨b',off' + k * 2 + 1,none⟩ = some (.slice za zn zc) from fun W hb=>⟨zae (zab hb lA1 HGA1.out),(hb.cell (p:=⟨b',off' + k * 2,none⟩) lb1).trans c0,(hb.cell (p:=⟨b',off' + k * 2 + 1,none⟩) lb1).trans c1⟩)
      refine tH 0 (h:=?_);refine tH 1 (h:=?_);refine tH 2 (h:=?_);refine tH 3 (h:=?_);refine tH 4 (h:=?_);refine wpAnyH_ready (rs:=[5,9]) (by kernel_rfl) (by simp) ?_
      refine AllReadyH.cons rfl (fun K hK=>?_) (AllReadyH.cons rfl (fun K hK=>?_) AllReadyH.nil)
      focus
       go_simp;refine (HRa.out _ (Below.refl _ _).drew).mono ?_;rintro e w4 ⟨v4,rfl,hv4,hb4⟩;have b4:Below w1.heap.size w1 w4:=(Below.refl _ _).drew.trans hb4;obtain ⟨⟨pl,pa,pn,pc⟩,rfl,hv5⟩:=hv4.form;have hv6:=BitsAt.weaken (T:=fun q=>w1.heap.size≤q) hv5 (fun q hq=>hq)
       refine hK.out _ _ (HS.out _ b4) (fun hHeld=>?_)
       clear hK K;refine tH 6 (h:=?_);refine tH 7 (h:=?_);refine tH 8 (h:=?_);refine wpAnyH_ready (rs:=[9]) (by kernel_rfl) (by simp) ?_
       refine AllReadyH.cons rfl (fun K hK=>?_) AllReadyH.nil
       go_simp;have b5:Below w1.heap.size w1 (w4.alloc (.cells #[.int .i64 0,.slice none 0 0] 56)):=b4.alloc b4.size _
       refine hK.out _ _ (HS.out _ b5) (fun hHeld=>?_)
       clear hK K
       refine zbr (fun V2 hV2=>?_)
       have g2:V2.heap[w4.heap.size]? = some (.cells #[.int .i64 0,.slice none 0 0] 56 (0,0)):=by rw [hV2]; exact zac rfl
       have b45:=xal hV2
       rw [← hV2] at b5;have hv7:=zjp ((hv6.move (w':=w4) xnl fun q _ _=>rfl).below b45)
       have z14:=b4.size;obtain ⟨Y,hY⟩:∃ Y,w4.heap.size = Y:=⟨_,rfl⟩
       have HV8:=zjp (show BitsAt V2 (fun q=>q≠A∧q≠Y) (.agg #[.int .i64 pl,.slice pa pn pc]) (P.getD zbg) from by
        obtain ⟨s,e,hv⟩:=hv6
        exact ⟨s,e,(hv.move (w':=w4) (S':=fun q=>q≠A∧q≠Y) xnl fun q hq hs=>⟨rfl,by have hs':w1.heap.size≤q:=hs; show q≠A; omega,by show q≠Y; omega⟩).below b45⟩)
       rw [hY] at g2 ⊢;clear hV2 hHeld b45 hv4 hv5 hv6 hb4;have hHeld:=HS.out _ b5;have hYA:Y≠A:=by omega
       obtain ⟨e0,e1⟩:=zae g2; have ff0:=frozen_of_row _ _ 0 _ _ g2; have ff1:=frozen_of_row _ _ 1 _ _ g2;have hb6:=(b5.setCell (p:=⟨Y,0,none⟩) (by show w1.heap.size≤Y; omega) (.int .i64 pl)).setCell (p:=⟨Y,1,none⟩) (by show w1.heap.size≤Y; omega) (.slice pa pn pc);have HB6:=zjp hb6; have HYA:=zjp hYA;clear hY hb6 hYA;refine wpAnyH_ready (rs:=[10]) (by kernel_rfl) (by simp) ?_
       refine AllReadyH.cons rfl (fun K hK=>?_) AllReadyH.nil
       go_simp;skip
       refine hK.out _ _ (HS.out _ HB6.out) (fun hHeld=>?_)
       clear hK K;refine tH 11 (h:=?_);refine wpAnyH_done (by kernel_rfl) ?_ _;refine NoPanic.normal ?_;go_wp2_with fail
       go_meet;exact ⟨Y,⟨pl,pa,pn,pc⟩,rfl,rfl,HYA.out,two_set g2 _ _,zab HB6.out lA1 HGA1.out,bits_far2 HV8.out,HB6.out⟩
      focus
       go_simp;have b5:Below w1.heap.size w1 (w1.alloc (.cells #[.int .i64 0,.slice none 0 0] 56)).drew:=((Below.refl _ _).alloc xnl _).drew
       refine hK.out _ _ (HS.out _ b5) (fun hHeld=>?_)
       clear hK K
       refine zbr (fun V1 hV1=>?_)
       rw [← hV1] at b5;have g1:V1.heap[w1.heap.size]? = some (.cells #[.int .i64 0,.slice none 0 0] 56 (0,0)):=by rw [hV1]; exact zac rfl
       clear hV1 hHeld;have hHeld:=HS.out _ b5;refine wpAnyH_ready (rs:=[5]) (by kernel_rfl) (by simp) ?_
       refine AllReadyH.cons rfl (fun K hK=>?_) AllReadyH.nil
       go_simp;refine (HRa.out V1 b5).mono ?_;rintro e w4 ⟨v4,rfl,hv4,hb4⟩;have b4:Below w1.heap.size w1 w4:=b5.trans (hb4.mono b5.size);obtain ⟨⟨pl,pa,pn,pc⟩,rfl,hv5⟩:=hv4.form
       refine hK.out _ _ (HS.out _ b4) (fun hHeld=>?_)
       clear hK K;have lg1:=zaa g1;have g2:=zab hb4 lg1 g1;obtain ⟨Y,hY⟩:∃ Y,w1.heap.size = Y:=⟨_,rfl⟩
       have HV8:=zjp (show BitsAt w4 (fun q=>q≠A∧q≠Y) (.agg #[.int .i64 pl,.slice pa pn pc]) (P.getD zbg) from by
        obtain ⟨s,e,hv⟩:=hv5
        exact ⟨s,e,hv.move (S':=fun q=>q≠A∧q≠Y) xnl fun q hq hs=>⟨rfl,by have hs':V1.heap.size≤q:=hs; show q≠A; omega,by have hs':V1.heap.size≤q:=hs; show q≠Y; omega⟩⟩)
       rw [hY] at g2 ⊢;clear hv4 hv5 hb4 g1;have hYA:Y≠A:=by omega
       obtain ⟨e0,e1⟩:=zae g2; have ff0:=frozen_of_row _ _ 0 _ _ g2; have ff1:=frozen_of_row _ _ 1 _ _ g2;have hb6:=(b4.setCell (p:=⟨Y,0,none⟩) (by show w1.heap.size≤Y; omega) (.int .i64 pl)).setCell (p:=⟨Y,1,none⟩) (by show w1.heap.size≤Y; omega) (.slice pa pn pc);have HB6:=zjp hb6; have HYA:=zjp hYA;clear hY hb6 hYA;refine tH 6 (h:=?_);refine tH 7 (h:=?_);refine tH 8 (h:=?_);refine wpAnyH_ready (rs:=[10]) (by kernel_rfl) (by simp) ?_
       refine AllReadyH.cons rfl (fun K hK=>?_) AllReadyH.nil
       go_simp;skip
       refine hK.out _ _ (HS.out _ HB6.out) (fun hHeld=>?_)
       clear hK K;refine tH 11 (h:=?_);refine wpAnyH_done (by kernel_rfl) ?_ _;refine NoPanic.normal ?_;go_wp2_with fail
       go_meet;exact ⟨Y,⟨pl,pa,pn,pc⟩,rfl,rfl,HYA.out,two_set g2 _ _,zab HB6.out lA1 HGA1.out,bits_far2 HV8.out,HB6.out⟩
     case rest =>
      obtain ⟨Y,⟨pl,pa,pn,pc⟩,rfl,rfl,hYA,hgY,hgA2,hp2,hb2⟩:=hcut;have HP2:=zjp hp2; have HGY:=zjp hgY; have HGA2:=zjp hgA2;have HB2:=zjp (HBw1.out.trans (hb2.mono HBw1.out.size));have lA2:=zaa hgA2; have lY2:=zaa hgY;clear hp2 hgY hgA2 hb2 a0 a1 c0 c1;cases P with
      | none =>
       have HR:=zjp (show zbw L = 0 from HDead.out HYe2.out);have he8:er = 8:=by rw [← HEr.out]; rfl
       subst he8;go_wp2_with fail
       go_ret;exact ⟨HF.out _ HR.out,HB2.out⟩
      | some Q =>
       have hy:=andB_len HP.out;have HY:=zjp hy;have he8:er = 0:=by rw [← HEr.out]; rfl
       subst he8;obtain ⟨y0,y1⟩:=zae HGY.out;have f0:=frozen_of_row _ _ 0 _ _ HGA2.out; have f1:=frozen_of_row _ _ 1 _ _ HGA2.out;obtain ⟨a0,a1⟩:=zae HGA2.out;clear hy;go_wp2_with fail
       have hW:∀ W6,W6 = ((wc.setCell ⟨A,0,none⟩ (.int .i64 pl)).setCell ⟨A,1,none⟩ (.slice pa pn pc)) →
         W6.heap[A]? = some (.cells (za3 ⟨pl,pa,pn,pc⟩).toArray 56 (0,0))∧BitsAt W6 (fun q=>q≠A) (.agg (za3 ⟨pl,pa,pn,pc⟩).toArray) Q∧Below w.heap.size w W6:=by
        intro W6 hW6;have hAe:=HAe.out;refine ⟨by rw [hW6]; exact two_set HGA2.out (.int .i64 pl) (.slice pa pn pc),?_,by rw [hW6]; exact (HB2.out.setCell (p:=⟨A,0,none⟩) (by show w.heap.size≤A; omega) _).setCell (p:=⟨A,1,none⟩) (by show w.heap.size≤A; omega) _⟩;obtain ⟨s,e,hv⟩:=HP2.out
        refine ⟨s,e,hv.move (S':=fun q=>q≠A) (by rw [hW6]; simp [World.setCell]) fun q hq hqA=>⟨?_,hqA.1⟩⟩
        rw [hW6,Below.heap_setCell _ _ _ _ hqA.1,Below.heap_setCell _ _ _ _ hqA.1]
       have HW:=zjp (hW _ rfl);clear hW a0 a1 f0 f1 y0 y1;go_roundw
       case rel=>exact ⟨k + 1,by omega,by go_num,⟨pl,pa,pn,pc⟩,Q,true,rfl,HW.out.1,HW.out.2.1,zjp ⟨by rw [HYe2.out]; rfl,(HAnd.out.2.1).len HY.out.1,fun _=>HY.out.2.1,fun h=>by cases h⟩,HW.out.2.2⟩
       case measure=>simp [intOf]; omega
  ·have hq:decide ((k:Int) < n) = false:=by simp; omega
   have hst:zip (L.filter zap) = (if fb = true then some (some X) else none):=by
    have h1:=HAnd.out.1;rwa [List.take_of_length_le (by rw [HN.out]; omega)] at h1
   have HR:=zjp (show zbw L = zcp X by
    rw [always_st,hst];cases fb
    ·have:=HAnd.out.2.2.2 rfl
     rw [this]; simp [zcp,zgj]
    ·rfl)
   obtain ⟨x0,x1⟩:=zae hgA;clear hgA hX hbw hst;go_wp2_with fail
   refine (rcount9_any (fun q=>q≠A) _ X _ HX.out HAnd.out.2.1.1 HAnd.out.2.1.2 HAnd.out.2.2.1).mono ?_
   rintro e w4 ⟨rfl,hb4⟩;have HB4:=zjp hb4;clear x0 x1 hb4;go_wp2_with fail
   go_ret;exact ⟨HF.out _ HR.out,HBw.out.trans (HB4.out.mono HBw.out.size)⟩
end
section
open Go.RowKit
theorem rrank_any (S:Nat→Prop) (v:Value) (L:List Int) (i:Nat) (w:World) (h:Vec w S 1 zjh v L) (hi:i < L.length) (hn:L.length≤1000000) :
  Calls prog 48 #[v,.int .i64 i] w fun e w'=>e = .returned (.tuple #[.int .i64 (zbz L L[i]).1,.bool (zbz L L[i]).2])∧Below w.heap.size w w':=by
 obtain ⟨a,cap,rfl⟩:=h.slice;have HV:=zjp h; clear h;have hlone:=lone_all hi;have hgi:L.getD i 0 = L[i]:=za5 _ _ hi;have HGi:=zjp hgi;obtain ⟨x,hx⟩:∃ x,L[i] = x:=⟨_,rfl⟩;rw [hx] at hlone HGi ⊢;obtain ⟨b,off,rfl,hb,hc⟩:=HV.out.get i hi;have ci:=hc 0 _ rfl;rw [Nat.mul_one,Nat.add_zero,hx] at ci;obtain ⟨⟨r,u⟩,hr⟩:∃ p,zbz L x = p:=⟨_,rfl⟩;rw [hr] at hlone ⊢;have HR:=zjp hr; have HL:=zjp hlone;obtain ⟨n,hln⟩:∃ n,L.length = n:=⟨_,rfl⟩;have HN:=zjp hln;rw [hln] at hi hn HV HL ⊢;have hii:(i:Int) < (n:Int):=by omega
 clear hc hr hx hln hlone hgi;go_enter func48,ntmps48
 go_wp2_with fail
 go_loopw [6,7,8] (fun g q j wr=>Below w.heap.size w wr∧∃ k:Nat,j = .int .i64 k∧k≤n∧∃ g':Nat,g = .int .i64 g'∧g'≤k∧Hid ((L.take k).countP (fun y=>decide (x < y)) = g')∧∃ bq:Bool,q = .bool bq∧Hid (lone L i k = bq)) (fun _ _ j _=>n - (intOf j).toNat)
 case atStart=>exact ⟨Below.refl _ _,0,rfl,by omega,0,rfl,by omega,zjp (by simp),true,rfl,zjp (by simp [lone])⟩
 case round =>
  obtain ⟨hbw,k,rfl,hk,g,rfl,hg,HG,bq,rfl,HQ⟩:=hrel;have HB:=zjp hbw;by_cases hlt:k < n
  ·have hq:decide ((k:Int) < n) = true:=by simp; omega
   have hlt':k < L.length:=by rw [HN.out]; exact hlt
   obtain ⟨b',off',e,_,hc⟩:=(HV.out.below hbw).get k hlt';cases e;have c0:=hc 0 _ rfl;have ci2:=(hbw.cell (p:=⟨b,off + i,none⟩) hb).trans ci;rw [Nat.mul_one,Nat.add_zero] at c0;have m3:=lone_next L i k;rw [HGi.out,za5 _ _ hlt',HQ.out] at m3;obtain ⟨y,hy⟩:∃ y,L[k] = y:=⟨_,rfl⟩;have m1:=zg0 (fun y=>decide (x < y)) L k hlt'
   rw [hy] at c0 m1 m3;rw [HG.out] at m1;have hki:(k:Int) < (n:Int):=by omega
   have hkix:k = i→y = x:=fun e=>by subst e; rw [← hy,← HGi.out,za5 _ _ hlt']
   clear hc hy HG HQ hbw;obtain ⟨g2,hg2,M1⟩:∃ g2:Nat,g2≤k + 1∧Hid ((L.take (k + 1)).countP (fun y=>decide (x < y)) = g2):=⟨_,by rw [m1]; split <;> omega,zjp rfl⟩
   obtain ⟨b2,M3⟩:∃ b2,Hid (lone L i (k + 1) = b2):=⟨_,zjp rfl⟩;rw [M1.out] at m1; rw [M3.out] at m3;by_cases hxy:x < y
   ·have d1:decide (x < y) = true:=by simp; omega
    rw [d1] at m1;have m1':g2 = g + 1:=m1;by_cases hki2:k = i
    ·exfalso; have:=hkix hki2; omega
    ·have d2:((k:Int) != (i:Int)) = true:=by simp; omega
     have d3:(y == x) = false:=by simp; omega
     have M3':b2 = bq:=by rw [m3]; simp [hki2]; omega
     clear m1 m3 d1;subst m1'; subst M3';go_wp2_with fail
     go_quiet (fail)
     go_wp2_with fail
     go_quiet (fail)
     go_wp2_with fail
     go_roundw
     case rel=>exact ⟨below_drewN HB.out _,k + 1,by go_num,by omega,g + 1,by go_num,by omega,M1,b2,rfl,M3⟩
     case measure=>simp [intOf]; omega
   ·have d1:decide (x < y) = false:=by simp; omega
    rw [d1] at m1;have m1':g2 = g:=m1;by_cases hki2:k = i
    ·have d2:((k:Int) != (i:Int)) = false:=by simp; omega
     have M3':b2 = bq:=by rw [m3]; simp [hki2]
     clear m1 m3;subst m1'; subst M3';go_wp2_with fail
     go_quiet (fail)
     go_wp2_with fail
     go_quiet (fail)
     go_wp2_with fail
     go_roundw
     case rel=>exact ⟨below_drewN HB.out _,k + 1,by go_num,by omega,g2,rfl,by omega,M1,b2,rfl,M3⟩
     case measure=>simp [intOf]; omega
    ·have d2:((k:Int) != (i:Int)) = true:=by simp; omega
     by_cases hyx:y = x
     ·have d3:(y == x) = true:=by simp; omega
      have M3':b2 = false:=by rw [m3]; simp [hki2,hyx]
      clear m1 m3;subst m1'; subst M3'; subst hyx;go_wp2_with fail
      go_quiet (fail)
      go_wp2_with fail
      go_quiet (fail)
      go_wp2_with fail
      go_roundw
      case rel=>exact ⟨below_drewN HB.out _,k + 1,by go_num,by omega,g2,rfl,by omega,M1,false,rfl,M3⟩
      case measure=>simp [intOf]; omega
     ·have d3:(y == x) = false:=by simp; omega
      have M3':b2 = bq:=by rw [m3]; simp [hki2,hyx]
      clear m1 m3;subst m1'; subst M3';go_wp2_with fail
      go_quiet (fail)
      go_wp2_with fail
      go_quiet (fail)
      go_wp2_with fail
      go_roundw
      case rel=>exact ⟨below_drewN HB.out _,k + 1,by go_num,by omega,g2,rfl,by omega,M1,b2,rfl,M3⟩
      case measure=>simp [intOf]; omega
  ·have hq:decide ((k:Int) < n) = false:=by simp; omega
   obtain rfl:k = n:=by omega
   have e1:=HG.out;rw [List.take_of_length_le (by rw [HN.out]; omega)] at e1;have hr:=HR.out;unfold zbz at hr;rw [e1] at hr;have hr1:(g:Int) = r:=congrArg Prod.fst hr;have hr2:bq = u:=by rw [← HQ.out,HL.out]
   clear e1 hr HG HQ hbw;go_wp2_with fail
   go_ret2;subst hr1; subst hr2;exact ⟨rfl,HB.out⟩
end
end Go.Proofs.YtgkaafncfjlooaaGreatDoor
