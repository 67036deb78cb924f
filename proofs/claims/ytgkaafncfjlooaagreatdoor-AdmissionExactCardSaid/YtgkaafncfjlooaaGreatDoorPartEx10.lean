/- Parts of one proof: Ref19D, LawH, AexWalk. -/
import Derived.Test.YtgkaafncfjlooaaGreatDoorPartEx9
set_option maxHeartbeats 16000000
set_option maxRecDepth 100000
open Go.Proofs.Tryz
set_option linter.unusedSimpArgs false
set_option linter.unusedVariables false
namespace Go.Proofs.YtgkaafncfjlooaaGreatDoor
section
open Go.RowKit Cal
theorem wpl_name {P:Program} {ops:Array Oper} {Q:Exit->Act->World->Prop} {l:List Oper} {a:Act} {W:World} (h:∀ w',w'=W->wpList P ops Q l a w'):wpList P ops Q l a W:=h W rfl
section
variable {α:Type} {P:Program} {w:World} {o:Oper} {a:Act} {Q:Exit->Act->World->Prop}
theorem zev {ops:Array Oper} {rest:List Oper} (hgd:o.guard=none) (s x:Operand) (t:TypeId) (ho:o.op = .call { callee:=.builtin .append,args:=#[s,x],argTypes:=#[t,t] })
  (e:TypeId) (z:Value) (size bytes:Nat) (enc:α->List Value) (hk:∀ x,(enc x).length=size) (h1:∀ x,∀ u∈enc x,u.oneCell'=true) (ht:P.underlying t=some (.slice e)) (hinfo:(P.info? e).map (fun i=>(i.zero,i.size,i.bytes))=some (some z,size,bytes))
  (hzs:z.cells.size=size) (hsz:0<size) (hby:bytes<=128) {w0:World} {v u:Value} {A B:List α} (hs:a.eval s=v) (hown:OwnV e size enc w0 v A w) (hx:a.eval x=u) (hr:zck w size u B.length (B.flatMap enc)) (hn:A.length+B.length<=1000000000)
  (h:∀ v' w',OwnV e size enc w0 v' (A++B) w'->(∀ k o,some k≠v.ownBlock->w.heap[k]?=some o->w'.heap[k]?=some o)->w.heap.size<=w'.heap.size->(v'.ownBlock=none\/v.ownBlock=v'.ownBlock\/v'.ownBlock=some w.heap.size)->wpList P ops Q rest (a.put o.dst v') w'):wpList P ops Q (o :: rest) a w :=
 wpList_plain hgd fun _ hK=>zc4 s x t ho e z size bytes enc hk h1 ht hinfo hzs hsz hby hs hown hx hr hn fun v' w' h2 h3 h4 h5=>hK _ _ (h v' w' h2 h3 h4 h5)
end
structure RIn (W2:World) (x:Ex) (c v:Value) (CB:List BV) (VS:List (List UInt8)) (w:World):Prop where
 two:TwoOwn 56 9 2 1 za4 za8 W2 c v CB VS w
 box:w.heap[W2.heap.size]?=some (.cells #[.int .i64 x.f,.int .i64 x.u,.int .i64 x.h,.int .i64 x.c,.int .i64 x.i] 61 (0,0))
 off1:c.ownBlock≠some W2.heap.size
 off2:v.ownBlock≠some W2.heap.size
section
variable {W2 w:World} {x:Ex} {c v:Value} {CB:List BV} {VS:List (List UInt8)}
theorem RIn.below {w':World} (h:RIn W2 x c v CB VS w) (hb:Below w.heap.size w w'):RIn W2 x c v CB VS w':=⟨h.two.below hb,zab hb (zaa h.box) h.box,h.off1,h.off2⟩
theorem RIn.app1 {c':Value} {CB':List BV} {w':World} (h:RIn W2 x c v CB VS w) (ho:OwnV 56 2 za4 W2 c' CB' w') (hk:∀ k o,some k≠c.ownBlock->w.heap[k]?=some o->w'.heap[k]?=some o) (hat:c'.ownBlock=none\/c.ownBlock=c'.ownBlock\/c'.ownBlock=some w.heap.size):RIn W2 x c' v CB' VS w':=by
 have hl:=zaa h.box;refine ⟨h.two.put1 ho hk hat,hk _ _ (Ne.symm h.off1) h.box,?_,h.off2⟩
 rcases hat with h1 | h1 | h1
 ·rw [h1];intro e;cases e
 ·rw [<- h1];exact h.off1
 ·rw [h1];intro e;have:=Option.some.inj e;omega
theorem RIn.app2 {v':Value} {VS':List (List UInt8)} {w':World} (h:RIn W2 x c v CB VS w) (ho:OwnV 9 1 za8 W2 v' VS' w') (hk:∀ k o,some k≠v.ownBlock->w.heap[k]?=some o->w'.heap[k]?=some o) (hat:v'.ownBlock=none\/v.ownBlock=v'.ownBlock\/v'.ownBlock=some w.heap.size):RIn W2 x c v' CB VS' w':=by
 have hl:=zaa h.box;refine ⟨h.two.put2 ho hk hat,hk _ _ (Ne.symm h.off2) h.box,h.off1,?_⟩
 rcases hat with h1 | h1 | h1
 ·rw [h1];intro e;cases e
 ·rw [<- h1];exact h.off2
 ·rw [h1];intro e;have:=Option.some.inj e;omega
theorem set_kept {w:World} {b i:Nat} {u:Value}:∀ k o,some k≠some b->w.heap[k]?=some o->(w.setCell ⟨b,i,none⟩ u).heap[k]?=some o:=fun k o hk ho=>by
 rw [Below.heap_setCell _ _ _ _ (fun e=>hk (by rw [e]))]
 exact ho
theorem RIn.set (h:RIn W2 x c v CB VS w) (i:Nat) (u:Value) (y:Ex) (hy:(#[.int .i64 x.f,.int .i64 x.u,.int .i64 x.h,.int .i64 x.c,.int .i64 x.i]:Array Value).setIfInBounds i u=#[.int .i64 y.f,.int .i64 y.u,.int .i64 y.h,.int .i64 y.c,.int .i64 y.i]):RIn W2 y c v CB VS (w.setCell ⟨W2.heap.size,i,none⟩ u):=by
 have hb:Below W2.heap.size W2 (w.setCell ⟨W2.heap.size,i,none⟩ u):=h.two.one.2.setCell (p:=⟨W2.heap.size,i,none⟩) xnl _;refine ⟨⟨h.two.one.keptV hb (r:=some W2.heap.size) set_kept (.inr h.off1),h.two.two.keptV hb (r:=some W2.heap.size) set_kept (.inr h.off2),h.two.off⟩,?_,h.off1,h.off2⟩;rw [<- hy];exact zad h.box
end
theorem fillN_app (b:BitsL):∀ (C:List BitsL) (g:Int),zie g (C++[b])=if zap b=true then max (zie g C) (zjo b) else zie g C
 | [],g=>rfl
 | c :: C,g=>by
  show zie _ (C++[b])=_;rw [fillN_app b C];rfl
theorem rassess19_any (S T U:Nat->Prop) (vf vt vn vs rv dv:Value) (s:SchemaL) (P:List ParL) (pv:Value) (k:Int × Int) (R:List RecL) (Ds:List (List zc2)) (w:World) (h:SchemaAt w S vf vt vn vs s) (hp:Vec w zau 3 zcm pv P) (hr:RecsVec w T rv R) (hd:SlsVec 2 zd1 w U dv Ds) (hi:∀ p∈P,InI p.len) (hn:P.length<=1000000)
  (hs:∀ r∈R,∀ x∈r.vals,x.length<=1000000) (hm:∀ r∈R,r.vals.length<=1000000) (hR:R.length<=1000000) (hD:Ds.length<=1000000) (hDn:∀ D∈Ds,D.length<=1000000) :
  Calls prog 22 #[.agg #[vf,vt,vn,vs],pv,.agg #[.int .u64 k.1,.int .u64 k.2],rv,dv] w (AssessPost (zcp s P k R Ds) w):=by
 obtain ⟨pa,pc,rfl⟩:=hp.slice;obtain ⟨ar,cr,rfl⟩:=hr.slice;obtain ⟨da,dc,rfl⟩:=hd.slice;obtain ⟨af,cf,rfl⟩:=h.1.slice;have v3:=zjy h.any;have HP:=zjy hp;have HR:=zjy hr.any;have HI:=zjy hi;have B1:=zjy hs;have HM:=zjy hm;have HD:=zjy (hd.weaken (T:=zau) fun _ _ _=>trivial);have x7:=zjy hDn
 obtain ⟨Z,hZ⟩:=xex (zcp s P k R Ds);have x6:=fun (W:World) (hb:Below w.heap.size w W)=>rall16_any zau zau _ _ _ _ _ s P _ k R W (h.any.below hb) (hp.below hb) (hr.any.below hb) hi hn hs hm hR
 obtain ⟨ce,i7⟩:=xex (zcj s P);obtain ⟨c7,a6⟩:=xex (allN s R);have s8:ce=0->c7=0->∀ r∈R,RecIn s P r:=fun h1 h2 r hr=>recIn_of (by rw [i7];exact h1) ((zi0 (by rw [a6];exact h2)).2.2 r hr)
 have f7:c7=0->R.length<=64:=fun h2=>(zi0 (by rw [a6];exact h2)).2.1
 have u4:ce=0->c7=0->zjv s P k R=(R.map (zi2 s P k),0):=fun h1 h2=>by unfold zjv;rw [if_pos (by rw [i7];exact h1),if_pos (by rw [a6];exact h2)]
 rw [hZ];have HZ:=zjy hZ;have d3:=zjy i7;have e5:=zjy a6;have B6:=zjy s8;have p2:=zjy f7;have C3:=zjy u4;have a2:=zjy x6;obtain ⟨nR,l0⟩:=xex (R.length);obtain ⟨nP,l1⟩:=xex (P.length);obtain ⟨nD,l3⟩:=xex (Ds.length);obtain ⟨nF,l2⟩:=xex (s.fields.length);have b8:=zjy l0;have v8:=zjy l1;have a7:=zjy l3;have c9:=zjy l2;rw [l0] at a2 hR ⊢;rw [l1] at a2 hn ⊢;rw [l3] at hD ⊢;rw [l2] at a2 ⊢;clear h hp hr hd hi hs hm hZ i7 a6 s8 f7 u4 x6 hDn l0 l1 l3 l2;go_enter func22,ntmps22
 go_wp2_with fail
 refine zah (fun W hW=>?_)
 have g2:=xam hW
 have k2:W.heap[w.heap.size]?=some (.cells #[.slice af nF cf,vt,vn,vs] 33 (0,0)):=by rw [hW];exact zaf (zac rfl)
 have l7:W.heap[w.heap.size+1]?=some (.cells #[.int .u64 k.1,.int .u64 k.2] 41 (0,0)):=by rw [hW];exact zac (by simp)
 clear hW;have m6:=zhe zau _ _ _ _ s P _ W (v3.o.below g2) (HP.o.below g2) HI.o (by rw [v8.o];exact hn);rw [d3.o,v8.o,c9.o] at m6;refine m6.mono ?_;rintro e w1 ⟨rfl,hb⟩;have j4:=zjy (g2.trans (hb.mono g2.size));have X1:=zjy (zab hb (zaa k2) k2);have Y1:=zjy (zab hb (zaa l7) l7);clear hb g2 k2 l7 m6;obtain ⟨s0,s1,s2,s3⟩:=zaq X1.o;have lx:=zaa X1.o;by_cases hc0:ce=0;rotate_left
 ·have d0:(ce != 0)=true:=by simpa using hc0
  have a1:Z=([],ce):=by rw [<- HZ.o];unfold zcp;rw [if_neg (by rw [d3.o];exact hc0),d3.o]
  have b0:=zjy a1;clear a1 hc0;go_wp2_with fail
  go_ret2;rw [b0.o];exact ⟨_,rfl,zd5 _ _,j4.o⟩
 have d0:(ce != 0)=false:=by simpa using hc0
 have e6:=zjy hc0;clear hc0;go_wp2_with fail
 have k4:=rrall_any zau zau _ _ _ _ _ s R w1 (v3.o.below j4.o) (HR.o.below j4.o) B1.o HM.o (by rw [b8.o];exact hR);rw [e5.o,b8.o,c9.o] at k4;refine k4.mono ?_;rintro e w2 ⟨rfl,hb⟩;have i2:=xhh j4 hb;have X2:=zjy (zab hb lx X1.o);have Y2:=zjy (zab hb (zaa Y1.o) Y1.o);clear hb k4 s0 s1 s2 s3 lx;obtain ⟨s0,s1,s2,s3⟩:=zaq X2.o;have lx:=zaa X2.o;obtain ⟨k0,k1⟩:=zae Y2.o;have ly:=zaa Y2.o;by_cases hc1:c7=0;rotate_left
 ·have d1:(c7 != 0)=true:=by simpa using hc1
  have a1:Z=([],c7):=by rw [<- HZ.o];unfold zcp;rw [if_pos (by rw [d3.o];exact e6.o),if_neg (by rw [e5.o];exact hc1),e5.o]
  have b0:=zjy a1;clear a1 hc1;go_wp2_with fail
  go_ret2;rw [b0.o];exact ⟨_,rfl,zd5 _ _,i2.o⟩
 have d1:(c7 != 0)=false:=by simpa using hc1
 have i0:=zjy hc1;have n5:=p2.o hc1;rw [b8.o] at n5;clear hc1;by_cases hc2:nD=nF;rotate_left
 ·have d2:((nD:Int) != (nF:Int))=true:=by simp;omega
  have a1:Z=([],8):=by rw [<- HZ.o];unfold zcp;rw [if_pos (by rw [d3.o];exact e6.o),if_pos (by rw [e5.o];exact i0.o),if_neg (by rw [a7.o,c9.o];exact hc2)]
  have b0:=zjy a1;clear a1 hc2;go_wp2_with fail
  go_ret2;rw [b0.o];exact ⟨_,rfl,zd5 _ _,i2.o⟩
 have d2:((nD:Int) != (nF:Int))=false:=by simp;omega
 have b4:=zjy hc2;have C2:=zjy (C3.o e6.o i0.o);have j2:=zjy (B6.o e6.o i0.o);clear hc2;go_wp2_with fail
 go_loopw [14,15] (fun t _ wr=>∃ f:Nat,t = .int .i64 f/\f<=nD/\Below w2.heap.size w2 wr/\Hid (zdj (Ds.take f)=0)) (fun t _ _=>nD - (intOf t).toNat)
 case atStart=>exact ⟨0,rfl,by omega,Below.refl _ _,zjy rfl⟩
 case round =>
  obtain ⟨f,rfl,hf,hb,h9⟩:=hrel;obtain ⟨WA,A2⟩:∃ u,u=wr:=⟨_,rfl⟩;subst A2;have d8:=xhh i2 hb;have o5:=zjy hb;clear hb;by_cases hlt:f<nD
  ·have hq:decide ((f:Int)<(nD:Int))=true:=by simp;omega
   have z9:(f:Int)<(nD:Int):=by omega
   have a9:f<Ds.length:=by rw [a7.o];exact hlt
   obtain ⟨db,g9,⟨xa,xn,xc⟩,e,ldb,dc0,hdv⟩:=(HD.o.below d8.o).at f a9;cases e;dsimp only at dc0 hdv;have e4:=x7.o _ (List.getElem_mem a9);have c2:Ds.take (f+1)=Ds.take f++[Ds[f]]:=List.take_succ_eq_append_getElem a9;have a5:Ds=Ds.take f++Ds[f] :: Ds.drop (f+1):=by rw [<- List.drop_eq_getElem_cons a9,List.take_append_drop]
   obtain ⟨D,g7⟩:=xex (Ds[f]);rw [g7] at hdv e4 c2 a5;have n2:=rcheck18_any zau _ D WA hdv e4;obtain ⟨er,m4⟩:=xex (zbh D);rw [m4] at n2;have C9:=zjy n2;have o7:=zjy c2;have h7:=zjy a5;have p7:=zjy m4;clear n2 c2 a5 m4 g7 hdv e4 s0 s1 s2 s3 k0 k1;go_wp2_with fail
   refine C9.o.mono ?_;rintro e wB ⟨rfl,t5⟩;have u9:=xhh o5 t5;clear t5;by_cases hcd:er=0
   ·have de:(er != 0)=false:=by simpa using hcd
    have g0:zdj (Ds.take (f+1))=0:=by
     rw [o7.o]
     refine zhp fun Y hY=>?_
     rcases List.mem_append.1 hY with h | h
     ·exact zf0 h9.o Y h
     ·rw [List.mem_singleton.1 h,p7.o];exact hcd
    have p9:=zjy g0;clear g0 hcd;go_wp2_with fail
    go_roundw
    case rel=>exact ⟨f+1,by go_num,by omega,u9.o,p9⟩
    case measure=>simp [intOf];omega
   ·have de:(er != 0)=true:=by simpa using hcd
    have m5:zdj Ds=er:=by
     rw [h7.o,dictErr_app _ _ _ h9.o];show (if zbh D=0 then _ else zbh D)=er;rw [if_neg (by rw [p7.o];exact hcd),p7.o]
    have a1:Z=([],er):=by rw [<- HZ.o];unfold zcp;rw [if_pos (by rw [d3.o];exact e6.o),if_pos (by rw [e5.o];exact i0.o),if_pos (by rw [a7.o,c9.o];exact b4.o),if_neg (by rw [m5];exact hcd),m5]
    have b0:=zjy a1;clear a1 m5 hcd;go_wp2_with fail
    go_ret2;rw [b0.o];exact ⟨_,rfl,zd5 _ _,i2.o.trans (u9.o.mono i2.o.size)⟩
  ·have hq:decide ((f:Int)<(nD:Int))=false:=by simp;omega
   obtain rfl:f=nD:=by omega
   have f5:Ds.take f=Ds:=List.take_of_length_le (by rw [a7.o];omega);rw [f5] at h9;have XA:=zjy (zab o5.o lx X2.o);have YA:=zjy (zab o5.o ly Y2.o);clear f5 s0 s1 s2 s3 k0 k1;obtain ⟨s0,s1,s2,s3⟩:=zaq XA.o;have q8:=zaa XA.o;obtain ⟨k0,k1⟩:=zae YA.o;go_wp2_with fail
   refine (a2.o _ d8.o).mono ?_;rw [C2.o];rintro e w3 ⟨ev,rfl,e3,n1⟩;obtain ⟨E,hE⟩:=xex (R.map (zi2 s P k));have n6:E.length=nR:=by rw [<- hE,List.length_map];exact b8.o
   dsimp only at e3 ⊢;rw [hE] at e3;obtain ⟨ea,ec,rfl⟩:=e3.slice;rw [n6] at e3 ⊢;have p8:=zjy n6;have HE:=zjy hE;have C1:=zjy e3;have q5:=xhh d8 n1;have X3:=zjy (zab n1 q8 XA.o);clear e3 n1 n6 hE s0 s1 s2 s3 k0 k1 q8;obtain ⟨s0,s1,s2,s3⟩:=zaq X3.o;have y5:=zaa X3.o;have dz:((0:Int) != 0)=false:=rfl;go_wp2_with fail
   go_loopw [18,19] (fun o t wr=>∃ f:Nat,t = .int .i64 f/\f<=nF/\OwnV 61 5 Ex.cells w3 o (zfz E R 0 (Ds.take f)) wr) (fun _ t _=>nF - (intOf t).toNat)
   case atStart=>exact ⟨0,rfl,by omega,OwnV.nil (Below.refl _ _)⟩
   case round =>
    obtain ⟨f2,rfl,hf2,ho⟩:=hrel;obtain ⟨W2,A3⟩:∃ u,u=wr:=⟨_,rfl⟩;subst A3;have HO:=zjy ho;have d7:=zjy (q5.o.trans (ho.2.mono q5.o.size));obtain ⟨oa,oc,eo⟩:=zar ho.1;have k6:(zfz E R 0 (Ds.take f2)).length=f2:=by rw [zej,List.length_take,a7.o];have:=b4.o;omega
    rw [k6] at eo;subst eo;have B3:=zjy k6;have XW:=zjy (zab ho.2 y5 X3.o);clear k6 s0 s1 s2 s3 ho;obtain ⟨s0,s1,s2,s3⟩:=zaq XW.o;by_cases hlt:f2<nF
    ·have hq:decide ((f2:Int)<(nF:Int))=true:=by simp;omega
     have z9:(f2:Int)<(nF:Int):=by omega
     have a9:f2<Ds.length:=by rw [a7.o,b4.o];exact hlt
     have hfn:(f2:Int)<(f:Int):=by have:=b4.o;omega
     obtain ⟨db,g9,⟨xa,xn,xc⟩,e,ldb,dc0,hdv⟩:=(HD.o.below d7.o).at f2 a9;cases e;dsimp only at dc0 hdv;have e4:=x7.o _ (List.getElem_mem a9);have c2:Ds.take (f2+1)=Ds.take f2++[Ds[f2]]:=List.take_succ_eq_append_getElem a9;have m7:zbh Ds[f2]=0:=zf0 h9.o _ (List.getElem_mem a9);obtain ⟨D,g7⟩:=xex (Ds[f2]);rw [g7] at hdv e4 c2 m7;have C4:=zjy hdv;have o7:=zjy c2;have C7:=zjy m7;have C5:=zjy dc0;have z3:=hdv.len.1;subst z3;clear hdv c2 m7 g7 dc0;go_wp2_with fail
     go_loopw [20,21,23] (fun c v t wr=>∃ (j:Nat) (CB:List BV) (g:Int),t = .int .i64 j/\j<=nR/\CB.length=j/\RIn W2 ⟨f2,0,0,0,g⟩ c v CB ((zfg R f2).take j) wr/\BitsAll W2 (fun b=>b<W2.heap.size) CB ((zig E f2).take j)/\Hid (zie 0 ((zig E f2).take j)=g)/\0<=g/\g<=1000) (fun _ _ t _=>nR - (intOf t).toNat)
     case atStart=>exact ⟨0,[],0,rfl,by omega,rfl,⟨TwoOwn.nil ((Below.refl _ _).alloc xnl _),zac rfl,(fun e=>by cases e),(fun e=>by cases e)⟩,⟨rfl,fun n h1 _=>by simp at h1⟩,zjy rfl,by omega,by omega⟩
     case round =>
      obtain ⟨j,CB,g,rfl,hj,n9,d9,t4,p5,hg0,hg1⟩:=hrel;obtain ⟨c8,n3⟩:∃ u,u=wr:=⟨_,rfl⟩;subst n3;obtain ⟨ca,cc,u7⟩:=zar d9.two.one.1;obtain ⟨va,vc,u6⟩:=zar d9.two.two.1;have j6:((zfg R f2).take j).length=j:=by rw [List.length_take,zfr,b8.o];omega
      rw [n9] at u7;rw [j6] at u6;subst u7;subst u6;have q3:=zjy n9;have A8:=zjy j6;have b2:=zjy d9;have i1:=zjy t4;clear n9 j6 t4 s0 s1 s2 s3;by_cases hlj:j<nR
      ·have z6:decide ((j:Int)<(nR:Int))=true:=by simp;omega
       have hji:(j:Int)<(nR:Int):=by omega
       have l8:j<E.length:=by rw [p8.o];exact hlj
       have i3:j<R.length:=by rw [b8.o];exact hlj
       obtain ⟨eb,o4,⟨A4,o2,fa,fn,fc⟩,e,leb,⟨e0,e1,e2⟩,hval⟩:=((C1.o.below HO.o.2).at j l8);cases e;dsimp only at e0 e1 e2;obtain ⟨sx,es,m8⟩:=hval;obtain ⟨y2,A6,rfl⟩:=m8.slice;have o3:A4=E[j].id/\o2=E[j].ver/\(fa=y2/\fn=E[j].fields.length/\fc=A6):=by simpa [eq_comm] using es
       obtain ⟨-,-,rfl,f8,rfl⟩:=o3;have u3:E[j]=zi2 s P k R[j]:=by have:=HE.o;subst this;simp
       have n7:E[j].fields.length=nF:=by
        rw [u3];show (zc6 s P k R[j].vals P.length).length=nF;rw [zg4,(j2.o _ (List.getElem_mem i3)).len,c9.o]
       have t1:f2<E[j].fields.length:=by rw [n7];exact hlt
       obtain ⟨bb,h0,⟨zl,za,zn,zc⟩,e,lbb,z0,z1,hat⟩:=m8.at f2 t1;cases e;dsimp only at z0 z1;have j8:=col_next (E:=E) (f:=f2) l8;have e9:=vals_next (R:=R) (f:=f2) i3
       have a4:R[j].vals.length=nF:=by
        have:=(zgt (j2.o _ (List.getElem_mem i3)).rec_).2.2.1;rw [this,c9.o]
       have c6:BitsIn (E[j].fields.getD f2 zch):=by
        have hc:=col_in (k:=k) j2.o f2;rw [HE.o] at hc;refine hc _ ?_;unfold zig;exact List.mem_map.2 ⟨_,List.getElem_mem l8,rfl⟩
       obtain ⟨rb,e8,rid,y3,raa,rnn,y4,a3,e,y7,r0,r1,r2,u1,k3⟩:=(HR.o.below d7.o).at j i3;cases e;rw [u1] at e9 a4;dsimp only at e9 a4;have s6:=k3.len.1;have m3:f2<a3.length:=by rw [a4];exact hlt
       obtain ⟨sb,c0,e,y6,s5⟩:=k3.get f2 m3;have e7:=s5 0 _ rfl;rw [Nat.mul_one,Nat.add_zero] at e7;rw [<- zbb a3 [] m3] at e7;obtain ⟨sv,s4⟩:=xex (a3.getD f2 []);obtain ⟨bz,t3⟩:=xex (E[j].fields.getD f2 zch);rw [s4] at e7 e9;rw [t3] at hat j8 c6
       have q6:=zjy (show BitsAt W2 (fun b=>b<W2.heap.size) (.agg (za4 ⟨zl,za,zn,zc⟩).toArray) bz from by
        obtain ⟨s',e',z4⟩:=hat
        exact ⟨s',e',z4.move xnl fun q hq _=>⟨rfl,hq⟩⟩)
       have r5:zl=bz.len:=by
        obtain ⟨s',e',-⟩:=hat;have o3:zl=bz.len/\s' = .slice za zn zc:=by simpa [eq_comm] using e'
        exact o3.1
       have o8:=zjy j8;have v2:=zjy e9;have d5:=zjy c6;have j1:=zjy r5;subst e;rw [f8,n7] at e2;rw [s6,a4] at r2;have m9:=d9.two.one.2;have v6:=zjy (show ∀ W',Below W2.heap.size W2 W'->W'.cell? ⟨rb,e8+j*3+2,none⟩=some (.slice (some ⟨sb,c0,none⟩) nF y4)/\W'.cell? ⟨sb,c0+f2,none⟩=some (zak sv) from fun W' hb=>⟨(hb.cell (p:=⟨rb,e8+j*3+2,none⟩) y7).trans r2,(hb.cell (p:=⟨sb,c0+f2,none⟩) y6).trans e7⟩)
       have u8:=(m9.cell (p:=⟨eb,o4+j*3+2,none⟩) leb).trans e2;have x9:=(m9.cell (p:=⟨bb,h0+f2*2,none⟩) lbb).trans z0;have x8:=(m9.cell (p:=⟨bb,h0+f2*2+1,none⟩) lbb).trans z1;clear j8 e9 s4 t3 hat k3 s5 u1 m8 es a4 f8 n7 u3 t1 s6 m3 d9 c6 r5 e0 e1 r0 r1 r2 e7 z0 z1 e2;have a8:=zjy (fillN_app bz ((zig E f2).take j) 0);rw [<- o8.o,p5.o] at a8;go_wp2_with (first | (at_builtin;have z8:=u8;clear z8;refine wpl_name (fun W1 hW1=>?_);obtain ⟨Y,hY⟩:=xex (c8.heap.size);have v7:=zjy (show (∀ g,(Value.slice ca j cc).ownBlock=some g->g<Y)/\(∀ g,(Value.slice va j vc).ownBlock=some g->g<Y) from ⟨fun g e=>by rw [<- hY];exact (b2.o.two.one.1.lt g e).2,fun g e=>by rw [<- hY];exact (b2.o.two.two.1.lt g e).2⟩);have b1:Below c8.heap.size c8 W1:=(by rw [hW1];exact ((Below.refl _ _).alloc xnl _).alloc (by simp) _);have gY:W1.heap[Y]?=some (.cells #[.int .i64 zl,.slice za zn zc] 56 (0,0)):=(by rw [hW1,<- hY];exact zaf (zac rfl));have gN:W1.heap[Y+1]?=some (.cells #[.int .i64 zl,.slice za zn zc] 56 (0,0)):=(by rw [hW1,<- hY];exact zac (by simp));have R1:=zjy (b2.o.below b1);have j3:=zjy (show zck W1 2 (.slice (some ⟨Y+1,0,none⟩) 1 1) [(⟨zl,za,zn,zc⟩:BV)].length ([(⟨zl,za,zn,zc⟩:BV)].flatMap za4) from za0 (xs:=[(⟨zl,za,zn,zc⟩:BV)].flatMap za4) (fr:=(0,0)) (t:=56) gN rfl);have r4:(∀ g,(Value.slice ca j cc).ownBlock=some g->g≠Y):=(fun g e=>by have:=v7.o.1 g e;omega);have y8:Y<W1.heap.size:=zaa gY;simp only [hY];clear hW1 b1 gN hY u8 x9 x8;refine zev rfl (.tmp 91) (.tmp 93) 57 rfl 56 (.agg #[.int .i64 0,.slice none 0 0]) 2 32 za4 (fun _=>rfl) ze9 underlying57 zgd rfl (by decide) (by decide) (w0:=W2) (v:=.slice ca j cc) (A:=CB) (B:=[⟨zl,za,zn,zc⟩]) rfl R1.o.two.one rfl j3.o (by rw [q3.o];simp only [List.length_cons,List.length_nil];omega) ?_;intro u2 w5 k7 l5 r6 g4;have R2:=zjy (R1.o.app1 k7 l5 g4);have o1:=l5 _ _ (fun e=>r4 _ e.symm rfl) gY;have h6:=zjy o1;obtain ⟨q1,q2⟩:=v6.o w5 k7.2;have B5:=zjy (show W1.heap.size<=w5.heap.size from r6);have t9:Y<w5.heap.size:=zaa o1;clear k7 l5 r6 g4 gY o1 R1 j3 r4) | (at_builtin;refine wpl_name (fun W3 hW3=>?_);have b3:Below w5.heap.size w5 W3:=(by rw [hW3];exact (Below.refl _ _).alloc xnl _);have gS:W3.heap[w5.heap.size]?=some (.cells #[zak sv] 9 (0,0)):=(by rw [hW3];exact zac rfl);have u5:=zab b3 t9 h6.o;have R3:=zjy (R2.o.below b3);have h4:=zjy (show zck W3 1 (.slice (some ⟨w5.heap.size,0,none⟩) 1 1) [sv].length ([sv].flatMap za8) from za0 (xs:=[sv].flatMap za8) (fr:=(0,0)) (t:=9) gS rfl);have q9:(∀ g,(Value.slice va j vc).ownBlock=some g->g≠Y):=(fun g e=>by have:=v7.o.2 g e;omega);clear hW3 b3 gS q1 q2;refine zev rfl (.tmp 95) (.tmp 104) 28 rfl 9 (.string ⟨#[]⟩) 1 16 za8 (fun _=>rfl) zjh underlying28 zdt rfl (by decide) (by decide) (w0:=W2) (v:=.slice va j vc) (A:=(zfg R f2).take j) (B:=[sv]) rfl R3.o.two.two rfl h4.o (by rw [A8.o];simp only [List.length_cons,List.length_nil];omega) ?_;intro v4 w6 s7 l4 z2 g3;have R4:=zjy (R3.o.app2 s7 l4 g3);have o0:=l4 _ _ (fun e=>q9 _ e.symm rfl) u5;obtain ⟨y0,y1⟩:=zae o0;have lY:=zaa o0;clear s7 l4 z2 g3 u5 R3 h4 q9 R2 h6 B5 t9 y8 o0))
       ·have hz:0<zl:=by omega
        have b5:zap bz=true:=by
         rcases d5.o with h | h
         ·rw [j1.o,h] at hz;exact absurd hz (by decide)
         ·exact h.1
        have b6:=a8.o;clear hz a8;have h8:64<=zl/\zl<=512:=by have:=(zcw b5).1;rw [<- j1.o] at this;exact this.2
        have z7:(0<zl)=True:=eq_true (by omega);have A1:=zjs bz;have A0:=fillB_1000 b5;rw [if_pos b5] at b6;have r7:zgx bz.words:=bitsIn_U d5.o b5;have c4:=bitsIn_I d5.o;have c5:=fun (W:World) (hb:Below W2.heap.size W2 W)=>rcount9_any _ _ bz W (q6.o.move4 hb) c4.1 c4.2 (fun _=>r7)
        have i6:(2000*zcn bz+zl).tdiv (2*zl)=zjo bz:=by rw [j1.o];rfl
        obtain ⟨c,hc⟩:=xex (zcn bz);obtain ⟨fb,f9⟩:=xex (zjo bz);rw [hc] at c5 A1 i6;rw [f9] at A0 i6 b6;have q0:=zjy c5;have p6:=zjy b6;have c3:=fun (W:World)=>rrounded_any c zl W (by omega) (by omega) (by omega) (by omega)
        rw [i6] at c3;have o9:=zjy c3;have e1:=wrap_id (1000*c) (by omega) (by omega);clear b6 c5 c3 i6 hc f9 r7 c4 b5;have d4:=zjy (show (CB++[(⟨zl,za,zn,zc⟩:BV)]).length=j+1 by rw [List.length_append,q3.o];rfl);have d6:=zjy (show BitsAll W2 (fun b=>b<W2.heap.size) (CB++[(⟨zl,za,zn,zc⟩:BV)]) ((zig E f2).take (j+1)) by rw [o8.o];exact i1.o.snoc q6.o)
        obtain ⟨-,-,-,-,x4⟩:=cells5X R4.o.box;obtain ⟨-,-,-,-,f4⟩:=free5X R4.o.box;have lX:=zaa R4.o.box;have C8:=zjy R4.o.two.one.2;dsimp only at x4;clear v6 b2;refine wp_region_noPanic ?_
        refine zaw (by kernel_rfl) (fun w'=>w'.cell? ⟨W2.heap.size,4,none⟩=some (.int .i64 g)/\w'.cell? ⟨Y,0,none⟩=some (.int .i64 zl)/\w'.cell? ⟨Y,1,none⟩=some (.slice za zn zc)) 10 (⟨x4,y0,y1⟩) (fun hHeld=>?_)
        refine tK 0 ?_;refine tK 1 ?_;refine tK 2 ?_;refine tK 5 ?_;refine tK 6 ?_
        refine xrK 3 rfl fun K hK=>?_
        go_simp;refine (q0.o _ (C8.o.drew)).mono ?_;rintro e w7 ⟨rfl,t7⟩;have b7:Below w6.heap.size w6 w7:=(Below.refl _ _).drew.trans t7;have R7:=zjy (R4.o.below b7);have B7:=zjy b7;clear t7 b7
        refine zbc hK (⟨(B7.o.cell (p:=⟨W2.heap.size,4,none⟩) lX).trans x4,(B7.o.cell (p:=⟨Y,0,none⟩) lY).trans y0,(B7.o.cell (p:=⟨Y,1,none⟩) lY).trans y1⟩) (fun hHeld=>?_)
        clear hK K;refine tK 4 ?_
        refine xrK 7 rfl fun K hK=>?_
        go_simp;refine (o9.o _).mono ?_;rintro e w8 ⟨rfl,rfl⟩
        refine zbc hK (⟨(B7.o.cell (p:=⟨W2.heap.size,4,none⟩) lX).trans x4,(B7.o.cell (p:=⟨Y,0,none⟩) lY).trans y0,(B7.o.cell (p:=⟨Y,1,none⟩) lY).trans y1⟩) (fun hHeld=>?_)
        clear hK K;refine tK 8 ?_;refine tK 9 ?_;have f47:=(B7.o.frozen (p:=⟨W2.heap.size,4,none⟩) lX).trans f4
        refine xrK 10 rfl fun K hK=>?_
        go_simp;refine zav hK (by decide) ?_;clear hK K;refine zas (by kernel_rfl) ?_ _;refine NoPanic.normal ?_;go_wp2_with fail
        go_roundw
        case rel=>exact ⟨j+1,_,max g fb,by go_num,by omega,d4.o,by rw [v2.o];exact R7.o.set 4 _ ⟨f2,0,0,0,max g fb⟩ rfl,d6.o,p6,by omega,by omega⟩
        case measure=>simp [intOf];omega
       ·have hz:¬ 0<zl:=by omega
        have b5:¬ zap bz=true:=fun h=>by have:=(zcw h).1;rw [<- j1.o] at this;omega
        have b6:=a8.o;rw [if_neg b5] at b6;have p6:=zjy b6;clear b6 b5 a8;have d4:=zjy (show (CB++[(⟨zl,za,zn,zc⟩:BV)]).length=j+1 by rw [List.length_append,q3.o];rfl);have d6:=zjy (show BitsAll W2 (fun b=>b<W2.heap.size) (CB++[(⟨zl,za,zn,zc⟩:BV)]) ((zig E f2).take (j+1)) by rw [o8.o];exact i1.o.snoc q6.o)
        go_roundw
        case rel=>exact ⟨j+1,_,g,by go_num,by omega,d4.o,by rw [v2.o];exact R4.o,d6.o,p6,by omega,by omega⟩
        case measure=>simp [intOf];omega
      ·have z6:decide ((j:Int)<(nR:Int))=false:=by simp;omega
       obtain rfl:j=nR:=by omega
       have r8:(zfg R f2).take j=zfg R f2:=List.take_of_length_le (by rw [zfr,b8.o];omega);have r9:(zig E f2).take j=zig E f2:=List.take_of_length_le (by rw [zh7,p8.o];omega);rw [r8] at b2;rw [r9] at i1 p5;have a0:=(col_in (k:=k) j2.o f2);rw [HE.o] at a0;have i9:(zig E f2).length=j:=by rw [zh7,p8.o]
       have n4:(zfg R f2).length=j:=by rw [zfr,b8.o]
       have hx:(⟨f2,zdp (zd0 (zig E f2)),zhj (zd0 (zig E f2)) (zfg R f2) (zd7 (zao (zd0 (zig E f2))) D),zb6 (zig E f2),g⟩:Ex)=expoN E R f2 D:=by rw [<- p5.o];rfl
       obtain ⟨C,hC⟩:=xex (zig E f2);obtain ⟨V,hV⟩:=xex (zfg R f2);rw [hC] at i1 a0 i9 hx;rw [hV] at b2 n4 hx;have i4:=groups_ok C;obtain ⟨G,hG⟩:=xex (zd0 C);have n8:∀ x W,RIn W2 x (.slice ca j cc) (.slice va j vc) CB V W->BitsVec W zau (.slice ca j cc) C:=fun x W h=>⟨CB,by have:=(OwnV.vec (size:=2) (enc:=za4) (fun _=>rfl) h.two.one).any;exact this,(i1.o.move4 h.two.one.2).weaken fun _ _=>trivial⟩
       have m1:=rgroups_any zau _ C c8 (n8 _ c8 b2.o) (fun b hb=>bitsIn_I (a0 b hb)) (by omega)
       rw [hG] at m1 i4 hx;obtain ⟨gs,m0⟩:=xex (zd7 (zao G) D);rw [m0] at hx;obtain ⟨r1,h1⟩:=xex (zdp G);obtain ⟨r2,h2⟩:=xex (zhj G V gs);obtain ⟨r3,h3⟩:=xex (zb6 C);rw [h1,h2,h3] at hx;have s9:=i4.few;rw [i9] at s9;have C6:=zjy n8;have B8:=zjy m1;have v9:=zjy i4;have HX:=zjy hx;have p4:=zjy m0;have H1:=zjy h1;have H2:=zjy h2;have H3:=zjy h3;have q4:=zjy i9;have v0:=zjy n4;have b9:=zjy a0;clear m1 i4 hx m0 h1 h2 h3 n8 a0 r8 r9 hG hC hV i9 n4 d9;go_wp2_with fail
       refine B8.o.mono ?_;rintro e w4 ⟨gv,rfl,i5,t8⟩;have R4:=zjy (b2.o.below t8);obtain ⟨ga,gc,rfl⟩:=i5.slice;have A5:=(R4.o.two.one.2.cell (p:=⟨db,g9+f2,none⟩) ldb).trans C5.o;have g6:=ralign_any _ zau _ _ G D w4 i5 (C4.o.below R4.o.two.one.2) (by omega) e4;unfold zgy at g6;rw [C7.o,p4.o,if_pos rfl] at g6;have x5:=zjy i5;obtain ⟨q,k5⟩:=xex (G.length);have HQ:=zjy k5;rw [k5] at g6 s9 x5 ⊢;have D0:=zjy g6;clear g6 i5 t8 k5;go_wp2_with fail
       refine D0.o.mono ?_;rintro e w5 ⟨v5,rfl,j7,n0⟩;obtain ⟨sa,sc,rfl⟩:=j7.slice;have B0:=zjy j7;have R5:=zjy (R4.o.below n0);have w9:=zjy (x5.o.below n0);clear j7 n0 A5;have m2:∀ g∈G,g.mem.length<=1000:=by intro g hg;have:=v9.o.mems g hg;have:=q4.o;omega
       have j9:=rsingular_any _ _ G w5 w9.o (by rw [HQ.o];omega) m2;rw [H1.o] at j9;have B2:=zjy j9;clear j9;go_wp2_with fail
       refine B2.o.mono ?_;rintro e w6 ⟨rfl,i8⟩;have R6:=zjy (R5.o.below i8);have C0:=zjy (w9.o.below i8);have v1:=zjy (B0.o.below i8);clear i8;obtain ⟨x0,x1,x2,x3,x4⟩:=cells5X R6.o.box;obtain ⟨f0,f1,g8,f3,f4⟩:=free5X R6.o.box;obtain ⟨ng,k8⟩:=xex (gs.length);have HNg:=zjy k8;rw [k8] at v1 ⊢;clear k8;go_wp2_with fail
       refine zah (fun W7 hW7=>?_)
       have R7:=zjy (show RIn W2 ⟨f2,r1,0,0,g⟩ (.slice ca j cc) (.slice va j vc) CB V W7 by rw [hW7];exact R6.o.set 1 _ ⟨f2,r1,0,0,g⟩ rfl);have lX0:=zaa b2.o.box;have lX4:=zaa R4.o.box
       have B9:=zjy (show GroupsAt W7 (fun b=>c8.heap.size<=b) (.slice ga q gc) G by
        rw [hW7]
        exact C0.o.move (by simp) fun b hb hs=>⟨Below.heap_setCell _ _ _ _ (by have z5:c8.heap.size<=b:=hs;show b≠W2.heap.size;omega),hs⟩)
       have A9:=zjy (show Vec W7 (fun b=>w4.heap.size<=b) 2 zhn (.slice sa ng sc) gs by
        rw [hW7]
        exact v1.o.move (by simp) fun b hb hs=>⟨Below.heap_setCell _ _ _ _ (by have z5:w4.heap.size<=b:=hs;show b≠W2.heap.size;omega),hs⟩)
       have u0:Vec W7 zau 1 za8 (.slice va j vc) V:=(OwnV.vec (size:=1) (enc:=za8) (fun _=>rfl) R7.o.two.two).any
       have l9:=rhits_any _ _ zau _ _ _ G gs V W7 B9.o A9.o u0 (by rw [<- p4.o];intro g hg;have:=guess_range _ _ g hg;simpa [zao] using this) (by rw [v0.o,<- q4.o];exact v9.o.low) (by rw [<- p4.o];have h1:=guess_len (zao G) D;have h2:(zao G).length=G.length:=(by simp [zao]);have:=HQ.o;omega) m2 (by rw [v0.o];omega) (by rw [HQ.o];omega);rw [H2.o] at l9;have p3:=zjy l9;clear l9 u0 hW7 x0 x1 x2 x3 x4 f0 f1 g8 f3 f4 m2;refine p3.o.mono ?_;rintro e w8 ⟨rfl,t6⟩;have R8:=zjy (R7.o.below t6);clear t6;obtain ⟨x0,x1,x2,x3,x4⟩:=cells5X R8.o.box;obtain ⟨f0,f1,g8,f3,f4⟩:=free5X R8.o.box;go_wp2_with fail
       refine zah (fun W9 hW9=>?_)
       have R9:=zjy (show RIn W2 ⟨f2,r1,r2,0,g⟩ (.slice ca j cc) (.slice va j vc) CB V W9 by rw [hW9];exact R8.o.set 2 _ ⟨f2,r1,r2,0,g⟩ rfl);have c1:=ralways_any zau _ C W9 (C6.o _ W9 R9.o) (fun b hb=>bitsIn_I (b9.o b hb)) (fun b hb=>bitsIn_U (b9.o b hb)) (by rw [q4.o];omega)
       rw [H3.o] at c1;have o6:=zjy c1;clear c1 hW9 x0 x1 x2 x3 x4 f0 f1 g8 f3 f4;refine o6.o.mono ?_;rintro e q7 ⟨rfl,g1⟩;have j0:=zjy (R9.o.below g1);clear g1;obtain ⟨x0,x1,x2,x3,x4⟩:=cells5X j0.o.box;obtain ⟨f0,f1,g8,f3,f4⟩:=free5X j0.o.box;dsimp only at x0 x1 x2 x3 x4;have k9:=ziu E R D (Ds.take f2) 0;rw [Nat.zero_add,List.length_take,a7.o,Nat.min_eq_left (by have:=b4.o;omega),<- HX.o,<- o7.o] at k9;have B4:=zjy k9;have y9:=zaa j0.o.box;clear k9;go_wp2_with (at_builtin;refine wpl_name (fun W12 hW12=>?_);have A7:=zjy (show RIn W2 ⟨f2,r1,r2,r3,g⟩ (.slice ca j cc) (.slice va j vc) CB V W12 by rw [hW12];exact (j0.o.set 3 _ ⟨f2,r1,r2,r3,g⟩ rfl).below ((Below.refl _ _).alloc xnl _));have gN:W12.heap[q7.heap.size]?=some (.cells #[.int .i64 f2,.int .i64 r1,.int .i64 r2,.int .i64 r3,.int .i64 g] 61 (0,0)):=(by rw [hW12];exact zac (by simp));have p1:=zjy (HO.o.below A7.o.two.one.2);have j3:=zjy (show zck W12 5 (.slice (some ⟨q7.heap.size,0,none⟩) 1 1) [(⟨f2,r1,r2,r3,g⟩:Ex)].length ([(⟨f2,r1,r2,r3,g⟩:Ex)].flatMap Ex.cells) from za0 (xs:=[(⟨f2,r1,r2,r3,g⟩:Ex)].flatMap Ex.cells) (fr:=(0,0)) (t:=61) gN rfl);clear hW12 gN x0 x1 x2 x3 x4 f0 f1 g8 f3 f4;refine zev rfl (.tmp 144) (.tmp 146) 46 rfl 61 (.agg #[.int .i64 0,.int .i64 0,.int .i64 0,.int .i64 0,.int .i64 0]) 5 40 Ex.cells (fun _=>rfl) one_ex underlying46 infoEx rfl (by decide) (by decide) (w0:=w3) (v:=.slice oa f2 oc) (A:=zfz E R 0 (Ds.take f2)) (B:=[⟨f2,r1,r2,r3,g⟩]) rfl p1.o rfl j3.o (by rw [B3.o];simp only [List.length_cons,List.length_nil];omega) ?_;intro o13 w13 f6 l6 j5 g5;have p0:=zjy f6;clear f6 l6 j5 g5)
       go_wp2_with fail
       go_roundw
       case rel=>exact ⟨f2+1,by go_num,by omega,by rw [B4.o];exact p0.o⟩
       case measure=>simp [intOf];omega
    ·have hq:decide ((f2:Int)<(nF:Int))=false:=by simp;omega
     obtain rfl:f2=nF:=by omega
     have f5:Ds.take f2=Ds:=List.take_of_length_le (by rw [a7.o];have:=b4.o;omega);rw [f5] at HO;have a1:Z=(zfz E R 0 Ds,0):=by rw [<- HZ.o];unfold zcp;rw [if_pos (by rw [d3.o];exact e6.o),if_pos (by rw [e5.o];exact i0.o),if_pos (by rw [a7.o,c9.o];exact b4.o),if_pos h9.o,HE.o]
     have b0:=zjy a1;clear a1 f5;go_wp2_with fail
     go_ret2;rw [b0.o];refine ⟨_,rfl,?_,d7.o⟩;have h5:=HO.o.1;rw [zej,a7.o,b4.o] at h5;unfold ExRow;rw [zej,a7.o,b4.o];exact Row.owns h5 fun b hb _=>Nat.le_trans q5.o.size hb
end
section
open Go.RowKit Cal
def enterL (a l:List Ex):List Ex:=if zdm a l=0 then zcc 0 l (regE a l) else []
def zhu (a l:List Ex) (w:World) (e:Ending) (w':World):Prop:=∃ v,e = .returned (.tuple #[v,.int .i64 (zdm a l)])/\ExRow w' (All w') v (enterL a l)/\Below w.heap.size w w'
theorem enterL_len (a l:List Ex):(enterL a l).length<=1000:=by
 unfold enterL;split
 ·next h =>
  unfold zdm at h;obtain ⟨h1,h2,h3⟩:=zh9 h;rw [zdh _ _ _ h1.symm];omega
 ·exact Nat.zero_le _
theorem post_good {a l:List Ex} {w w':World} {e:Ending} (hc:zdm a l=0) (h:zi1 (zcc 0 l (regE a l)) w e w'):zhu a l w e w':=by
 obtain ⟨⟨v,rfl,hv⟩,hb⟩:=h;refine ⟨v,by rw [hc],?_,hb⟩;unfold enterL;rw [if_pos hc];exact Row.move hv fun b hb' _=>⟨rfl,hb'⟩
theorem post_bad {a l:List Ex} {w w':World} {e:Ending} (hc:zdm a l≠0) (h:EnterBad (zdm a l) w e w'):zhu a l w e w':=by
 obtain ⟨rfl,hb⟩:=h;refine ⟨_,rfl,?_,hb⟩;unfold enterL;rw [if_neg hc];exact zd5 _ _
theorem enter_post (u v:Value) (a l:List Ex) (w:World) (hu:ExRow w (All w) u a) (hl:ExRow w (All w) v l) (na:a.length<=1000000) (nl:l.length<=1000000) :
  Calls prog 26 #[u,v] w (zhu a l w):=by
 by_cases hc:zdm a l=0
 ·exact (enter_good u v a l w hu hl hc na nl).mono fun _ _ h=>post_good hc h
 ·exact (enter_bad u v a l w hu hl hc na nl).mono fun _ _ h=>post_bad hc h
theorem renter19_post (u v:Value) (a l:List Ex) (w:World) (hu:ExRow w (All w) u a) (hl:ExRow w (All w) v l) (na:a.length<=1000000) (nl:l.length<=1000000) :
  Calls prog 27 #[u,v] w (zhu a l w):=by
 by_cases hc:zdm a l=0
 ·exact (renter19_good u v a l w hu hl hc na nl).mono fun _ _ h=>post_good hc h
 ·exact (renter19_bad u v a l w hu hl hc na nl).mono fun _ _ h=>post_bad hc h
theorem ExRow.dealtD {D:Nat} {w0 w:World} {v:Value} {l:List Ex} (h:ExRow w (fun b=>w0.heap.size<=b) v l) (hD:D<w0.heap.size):ExRow w (Off D) v l :=
 Row.move h fun b _ hs=>⟨rfl,by have:w0.heap.size<=b:=hs;show b≠D;omega⟩
theorem ExRow.toAll {w:World} {S:Nat->Prop} {v:Value} {l:List Ex} (h:ExRow w S v l):ExRow w (All w) v l:=Row.move h fun b hb _=>⟨rfl,hb⟩
theorem cell_moved {D g x:Nat} {w w':World} {u:Value} (m:Moved D w w') (hg:g≠D) (h:w.cell? ⟨g,x,none⟩=some u):w'.cell? ⟨g,x,none⟩=some u:=by
 have hl:=World.block_lt_of_cell? _ _ h;exact (World.cell?_of_block (w:=w) (a:=⟨g,x,none⟩) (m.grown.block g hl (by simp;omega))).trans h
end
section
open Go.RowKit Cal
theorem aexact_walk (a:Option Addr) (n cap:Nat) (zs:List Int) (v1:Value) (Es1:List Ex) (v2:Value) (Es2:List Ex) (v3:Value) (Ps:List ParL) (v4:Value) (Rs:List RecL) (v5:Value) (Ds:List (List zc2)) (w:World)
  (hr:IsRow .i64 w a n cap zs) (h1:ExRow w (All w) v1 Es1) (h2:ExRow w (All w) v2 Es2) (h3:Vec w zau 3 zcm v3 Ps/\(∀ p∈Ps,InI p.len)/\Ps.length<=maxLen) (h4:RecsVec w zau v4 Rs) (h5:SlsVec 2 zd1 w zau v5 Ds) :
  Calls prog 5 #[.slice a n cap,v1,v2,v3,v4,v5] w fun e w'=>e = .returned (.bool true)/\Below w.heap.size w w':=by
 obtain ⟨h3,w4,E1⟩:=h3;obtain ⟨a1,c1,rfl⟩:=h1.val;obtain ⟨a2,c2,rfl⟩:=h2.val;obtain ⟨a3,c3,rfl⟩:=h3.slice;obtain ⟨a4,c4,rfl⟩:=h4.slice;obtain ⟨a5,c5,rfl⟩:=h5.slice;obtain ⟨m1,k9⟩:=xex (Es1.length);obtain ⟨m2,k8⟩:=xex (Es2.length);obtain ⟨m3,k7⟩:=xex (Ps.length);obtain ⟨m4,k6⟩:=xex (Rs.length);obtain ⟨m5,k5⟩:=xex (Ds.length);have HR:=zjy hr;have H1:=zjy h1;have H2:=zjy h2;have H3:=zjy h3;have H4:=zjy h4;have H5:=zjy h5;have F7:=zjy w4;have F3:=zjy k9;have F1:=zjy k8;have z4:=zjy k7;have i8:=zjy k6;have i7:=zjy k5;rw [k9] at H1 ⊢;rw [k8] at H2 ⊢;rw [k7] at H3 ⊢;rw [k6] at H4 ⊢;rw [k5] at H5 ⊢;clear hr h1 h2 h3 h4 h5 w4 E1 k9 k8 k7 k6 k5;go_enter func5,ntmps5
 go_wp2_with fail
 refine (zf2 _).mono ?_;rintro e w1 ⟨rfl,b7⟩;have a7:=zjy b7;clear b7;by_cases hn:n<=400;rotate_left
 ·have hd:decide (n<=400)=false:=by simpa using hn
  go_wp2_with fail
  refine (zit a n cap _).mono ?_;rintro e w' ⟨rfl,rfl⟩;go_wp2_with fail
  refine (zf2 _).mono ?_;rintro e w9 ⟨rfl,b0⟩;go_wp2_with fail
  go_ret;exact ⟨rfl,a7.o.trans (b0.mono a7.o.size)⟩
 have hd:decide (n<=400)=true:=by simpa using hn
 have E8:=zjy hn;by_cases g1:m1<=20;rotate_left
 ·have d1:decide ((20:Int)<(m1:Int))=true:=by simp;omega
  clear g1 hn;go_wp2_with fail
  refine (zit a n cap _).mono ?_;rintro e w' ⟨rfl,rfl⟩;go_wp2_with fail
  refine (zf2 _).mono ?_;rintro e w9 ⟨rfl,b0⟩;go_wp2_with fail
  go_ret;exact ⟨rfl,a7.o.trans (b0.mono a7.o.size)⟩
 have d1:decide ((20:Int)<(m1:Int))=false:=by simp;omega
 by_cases g2:m2<=20;rotate_left
 ·have d2:decide ((20:Int)<(m2:Int))=true:=by simp;omega
  clear g2 hn;go_wp2_with fail
  refine (zit a n cap _).mono ?_;rintro e w' ⟨rfl,rfl⟩;go_wp2_with fail
  refine (zf2 _).mono ?_;rintro e w9 ⟨rfl,b0⟩;go_wp2_with fail
  go_ret;exact ⟨rfl,a7.o.trans (b0.mono a7.o.size)⟩
 have d2:decide ((20:Int)<(m2:Int))=false:=by simp;omega
 by_cases g3:m3<=20;rotate_left
 ·have d3:decide ((20:Int)<(m3:Int))=true:=by simp;omega
  clear g3 hn;go_wp2_with fail
  refine (zit a n cap _).mono ?_;rintro e w' ⟨rfl,rfl⟩;go_wp2_with fail
  refine (zf2 _).mono ?_;rintro e w9 ⟨rfl,b0⟩;go_wp2_with fail
  go_ret;exact ⟨rfl,a7.o.trans (b0.mono a7.o.size)⟩
 have d3:decide ((20:Int)<(m3:Int))=false:=by simp;omega
 by_cases g4:m4<=20;rotate_left
 ·have d4:decide ((20:Int)<(m4:Int))=true:=by simp;omega
  clear g4 hn;go_wp2_with fail
  refine (zit a n cap _).mono ?_;rintro e w' ⟨rfl,rfl⟩;go_wp2_with fail
  refine (zf2 _).mono ?_;rintro e w9 ⟨rfl,b0⟩;go_wp2_with fail
  go_ret;exact ⟨rfl,a7.o.trans (b0.mono a7.o.size)⟩
 have d4:decide ((20:Int)<(m4:Int))=false:=by simp;omega
 by_cases g5:m5<=20;rotate_left
 ·have d5:decide ((20:Int)<(m5:Int))=true:=by simp;omega
  clear g5 hn;go_wp2_with fail
  refine (zit a n cap _).mono ?_;rintro e w' ⟨rfl,rfl⟩;go_wp2_with fail
  refine (zf2 _).mono ?_;rintro e w9 ⟨rfl,b0⟩;go_wp2_with fail
  go_ret;exact ⟨rfl,a7.o.trans (b0.mono a7.o.size)⟩
 have d5:decide ((20:Int)<(m5:Int))=false:=by simp;omega
 go_wp2_with fail
 refine (zit a n cap _).mono ?_;rintro e w' ⟨rfl,rfl⟩;go_wp2_with fail
 clear d1 d2 d3 d4 d5 hd;go_loopw [75] (fun t wr=>∃ k:Nat,t = .int .i64 k/\k<=m4/\Below w.heap.size w wr/\Hid (∀ j,(hj:j<Rs.length)->j<k->(Rs[j]).vals.length<=20/\∀ x∈(Rs[j]).vals,x.length<=200)) (fun t _=>m4 - (intOf t).toNat)
 case atStart=>exact ⟨0,rfl,by omega,a7.o,zjy fun j _ hj=>by omega⟩
 case round =>
  obtain ⟨k,rfl,hk,hb,HA⟩:=hrel;have HB:=zjy hb;clear hb a7;by_cases hlt:k<m4
  ·have hq:decide ((k:Int)<(m4:Int))=true:=by simp;omega
   have D0:(k:Int)<(m4:Int):=by omega
   have l1:k<Rs.length:=by rw [i8.o];exact hlt
   obtain ⟨rb,B9,rid,B8,raa,rnn,rcc,a0,e,lrb,r0,r1,r2,w3,c8⟩:=(H4.o.below HB.o).at k l1;cases e;have C8:=c8.len.1;subst C8;have HV:=zjy c8
   have HK:=zjy (show (Rs[k]).vals.length<=20/\(∀ x∈(Rs[k]).vals,x.length<=200)->∀ j,(hj:j<Rs.length)->j<k+1->(Rs[j]).vals.length<=20/\∀ x∈(Rs[j]).vals,x.length<=200 from fun h j hj hjk=>by
    by_cases e:j=k
    ·subst e;exact h
    ·exact HA.o j hj (by omega))
   rw [w3] at HK;dsimp only at HK;clear c8 w3 r0 r1;by_cases hv:a0.length<=20;rotate_left
   ·have d1:decide ((20:Int)<(a0.length:Int))=true:=by simp;omega
    go_wp2_with fail
    go_ret;exact ⟨rfl,HB.o⟩
   have d1:decide ((20:Int)<(a0.length:Int))=false:=by simp;omega
   go_wp2_with fail
   refine (eshort_any zau _ a0 _ HV.o (by omega)).mono ?_;rintro e w2 ⟨rfl,b3⟩;have A3:=xhh HB b3;clear b3
   by_cases hs:(a0.all fun x=>decide (x.length<=200))=true
   ·have p4:=zjy (HK.o ⟨hv,fun x hx=>by simpa using List.all_eq_true.1 hs x hx⟩)
    rw [hs];clear hs;go_wp2_with fail
    go_roundw
    case rel=>exact ⟨k+1,by go_num,by omega,A3.o,p4⟩
    case measure=>simp [intOf];omega
   ·rw [Bool.eq_false_iff.2 hs]
    clear hs;go_wp2_with fail
    go_ret;exact ⟨rfl,A3.o⟩
  ·have hq:decide ((k:Int)<(m4:Int))=false:=by simp;omega
   have y2:=zjy (show ∀ r∈Rs,r.vals.length<=20/\∀ x∈r.vals,x.length<=200 from fun r hr=>by
    obtain ⟨j,hj,rfl⟩:=List.mem_iff_getElem.1 hr
    exact HA.o j hj (by rw [i8.o] at hj;omega))
   clear HA hk;go_wp2_with fail
   go_loopw [97] (fun t wr=>∃ k:Nat,t = .int .i64 k/\k<=m5/\Below w.heap.size w wr/\Hid (∀ j,(hj:j<Ds.length)->j<k->(Ds[j]).length<=80)) (fun t _=>m5 - (intOf t).toNat)
   case atStart=>exact ⟨0,rfl,by omega,HB.o,zjy fun j _ hj=>by omega⟩
   case round =>
    obtain ⟨k,rfl,hk,hb,HA⟩:=hrel;have c6:=zjy hb;clear hb HB;by_cases hlt:k<m5
    ·have hq:decide ((k:Int)<(m5:Int))=true:=by simp;omega
     have D0:(k:Int)<(m5:Int):=by omega
     have l1:k<Ds.length:=by rw [i7.o];exact hlt
     obtain ⟨db,E2,⟨xa,xn,xc⟩,e,ldb,dc0,c9⟩:=(H5.o.below c6.o).at k l1;cases e;dsimp only at dc0 c9;have r5:=c9.len.1
     have HK:=zjy (show (Ds[k]).length<=80->∀ j,(hj:j<Ds.length)->j<k+1->(Ds[j]).length<=80 from fun h j hj hjk=>by
      by_cases e:j=k
      ·subst e;exact h
      ·exact HA.o j hj (by omega))
     rw [<- r5] at HK;clear c9 r5;by_cases hv:xn<=80
     ·have d1:decide ((80:Int)<(xn:Int))=false:=by simp;omega
      have p4:=zjy (HK.o hv);go_wp2_with fail
      go_roundw
      case rel=>exact ⟨k+1,by go_num,by omega,c6.o,p4⟩
      case measure=>simp [intOf];omega
     ·have d1:decide ((80:Int)<(xn:Int))=true:=by simp;omega
      go_wp2_with fail
      go_ret;exact ⟨rfl,c6.o⟩
    ·have hq:decide ((k:Int)<(m5:Int))=false:=by simp;omega
     have F4:=zjy (show ∀ r∈Ds,r.length<=80 from fun r hr=>by
      obtain ⟨j,hj,rfl⟩:=List.mem_iff_getElem.1 hr
      exact HA.o j hj (by rw [i7.o] at hj;omega))
     clear HA hk;go_wp2_with fail
     refine (new_any a n cap _).mono ?_;rintro e w' ⟨rfl,rfl⟩;have i2:=deck_law2 (cap:=cap) E8.o HR.o c6.o;have l8:=c6.o.alloc c6.o.size (.cells #[.slice a n cap,.int .i64 0,.int .u64 11400714819323198485] 81);have c7:=c6.o.size;obtain ⟨Wd,w0⟩:∃ u,u=(wr.alloc (.cells #[.slice a n cap,.int .i64 0,.int .u64 11400714819323198485] 81)):=⟨_,rfl⟩;rw [<- w0] at i2 l8 ⊢;obtain ⟨D,hD⟩:=xex (wr.heap.size);rw [hD] at i2 c7 ⊢;have j0:=zjy l8;have p6:=zjy i2;clear c6 HR i2 l8 w0 hD;go_wp2_with fail
     refine (schema_deal _ _ p6.o).mono ?_;rintro e w6 ⟨vf,vt,vn,vs,s,rfl,hs,i1,mv⟩;obtain ⟨af,cf,rfl⟩:=hs.1.slice;obtain ⟨n7,ct,rfl⟩:=hs.2.1.slice;obtain ⟨an,cn,rfl⟩:=hs.2.2.1.slice;obtain ⟨n8,cs,rfl⟩:=hs.2.2.2.slice;have b6:=(zc3 i1.check).1.2;have f1:=i1.some;obtain ⟨N,hN⟩:=xex (s.fields.length);rw [hN] at hs b6 f1 ⊢;obtain ⟨nt,s7⟩:=xex (s.rules.titles.length);obtain ⟨nk,s9⟩:=xex (s.rules.nicks.length);obtain ⟨ns,s8⟩:=xex (s.rules.streets.length);rw [s7,s9,s8] at hs ⊢;have zWd:=p6.o.lt;have a9:∀ b,b<w6.heap.size->Wd.heap.size<=b->b≠D:=fun b _ h=>by omega
     have y0:=zjy (show SchemaAt w6 (Off D) (.slice af N cf) (.slice n7 nt ct) (.slice an nk cn) (.slice n8 ns cs) s from ⟨hs.1.off a9,hs.2.1.off a9,hs.2.2.1.off a9,hs.2.2.2.off a9⟩);have M6:=zjy mv;have x9:=zjy i1;have HN:=zjy hN;clear mv hs i1 hN s7 s9 s8 p6 a9;go_wp2_with fail
     refine zah (fun WB hWB=>?_)
     have l0:LX D w6.heap.size Wd (.slice af N cf) (.slice n7 nt ct) (.slice an nk cn) (.slice n8 ns cs) s WB:=by
      have hb:=xal hWB
      exact ⟨M6.o.below hb,by rw [hWB];exact zac rfl,y0.o.below hb,by have:=M6.o.size;omega⟩
     obtain ⟨Y,hY⟩:=xex (w6.heap.size);rw [hY] at l0 ⊢;have h8:=zjy l0;clear hWB l0 hY y0 M6
     refine (records_deal D (Off D) _ _ _ _ s 8 WB h8.o.m.deck h8.o.sa (fun b h=>h) x9.o (by decide)).mono ?_
     rintro e w7 ⟨rv,R,rfl,c8,f3,E0,-,m7⟩;obtain ⟨ra,rc,rfl⟩:=c8.slice;have A5:=h8.o.m.deck.lt;have o8:=zjy (c8.off (D:=D) (fun b _ h=>by have h':WB.heap.size<=b:=h;omega))
     have p3:=zjy (h8.o.moved m7);have d7:=zjy f3;obtain ⟨nR,k4⟩:=xex (R.length);have z1:=zjy k4;rw [k4] at E0 o8 ⊢;clear c8 m7 f3 k4 h8 A5;go_wp2_with fail
     refine (key_deal D _ p3.o.m.deck).mono ?_;rintro e w8 ⟨⟨ka,kb⟩,rfl,m8⟩;have p2:=zjy (p3.o.moved m8);have g9:=zjy (o8.o.movedD m8);have A6:=p2.o.m.deck.lt;clear m8 p3 o8;go_wp2_with fail
     refine zal (fun WS hWS=>?_)
     have bS:=xal hWS
     have n5:AX D Y w8.heap.size Wd (.slice af N cf) (.slice n7 nt ct) (.slice an nk cn) (.slice n8 ns cs) s (ka,kb) (.slice ra nR rc) R WS:=⟨p2.o.below bS,by rw [hWS];exact zac rfl,by omega,g9.o.below bS⟩;obtain ⟨Z,hZ⟩:=xex (w8.heap.size);rw [hZ] at n5 A6 ⊢;have p9:=zjy n5;clear hWS bS n5 hZ p2 g9;go_loopw [20,21] (fun v t wr=>∃ (i:Nat) (L:List (List zc2)),t = .int .i64 i/\i<=N/\L.length=i/\DO D WS v L wr) (fun _ t _=>N - (intOf t).toNat)
     case atStart=>exact ⟨0,[],rfl,by omega,rfl,DO.nil p9.o.l.m.deck⟩
     case round =>
      obtain ⟨i,L,rfl,hi,n3,ho⟩:=hrel;obtain ⟨WC,D4⟩:∃ u,u=wr:=⟨_,rfl⟩;subst D4;have HO:=zjy ho;have i9:=zjy n3;obtain ⟨C0,e1,e4,i3⟩:=ho;have f4:C0.length=i:=by rw [e4.1,n3]
      obtain ⟨va,vc,ev⟩:=zar e1.1;rw [f4] at ev;subst ev;have f5:=zjy e1;clear n3 e1 e4 i3 f4;by_cases hlt:i<N
      ·have hq:decide ((i:Int)<(N:Int))=true:=by simp;omega
       have hii:(i:Int)<(N:Int):=by omega
       go_wp2_with fail
       refine (dict_deal D _ f5.o.2.deck).mono ?_;rintro e w9 ⟨ev,E,rfl,e3,hE,m9⟩;obtain ⟨ea,ec,rfl⟩:=e3.slice;have z5:=zjy e3;have HE:=zjy hE;have M9:=zjy m9;obtain ⟨nE,e2⟩:=xex (E.length);rw [e2] at z5 ⊢;clear e3 hE m9 e2;go_wp2_with (at_builtin;refine wpl_name (fun W10 hW10=>?_);have n6:Below w9.heap.size w9 W10:=(by rw [hW10];exact (Below.refl _ _).alloc xnl _);have w5:W10.heap[w9.heap.size]?=some (.cells #[.slice ea nE ec] 44 (0,0)):=(by rw [hW10];exact zac rfl);have q2:Moved D WC W10:=M9.o.below n6;obtain ⟨C,e1,e4,i3⟩:=HO.o.moved q2;have d0:=zjy e1;have f6:=zjy e4;have f4:C.length=i:=(by rw [e4.1,i9.o]);have A0:=zjy f4;have zWC:=f5.o.2.deck.lt;have x1:=zjy (show Vec W10 (fun b=>b≠D/\(Value.slice va i vc).ownBlock≠some b) 2 zd1 (svV ⟨ea,nE,ec⟩) E from (z5.o.below n6).move xnl fun b _ hs=>⟨rfl,by have C7:WC.heap.size<=b:=hs;omega,fun e=>by have h3:=(f5.o.1.lt b e).2;have C7:WC.heap.size<=b:=hs;omega⟩);have y3:=zjy (show zck W10 1 (.slice (some ⟨w9.heap.size,0,none⟩) 1 1) [(⟨ea,nE,ec⟩:SV)].length ([(⟨ea,nE,ec⟩:SV)].flatMap encSV) from za0 (xs:=[(⟨ea,nE,ec⟩:SV)].flatMap encSV) (fr:=(0,0)) (t:=44) w5 rfl);have x0:=zjy i3;clear hW10 n6 w5 q2 e1 e4 i3 f4;refine zgi rfl (.tmp 124) (.tmp 127) 43 rfl D 44 (.slice none 0 0) 1 24 encSV (fun _=>rfl) one_encSL underlying43 infoESg rfl (by decide) (by decide) (wA:=WS) (v:=.slice va i vc) (A:=C) (B:=[⟨ea,nE,ec⟩]) rfl d0.o rfl y3.o (by rw [A0.o];simp only [List.length_cons,List.length_nil];omega) ?_;intro v11 w11 f0 f2 e8 b8;have p1:=zjy (DO.put (c:=⟨ea,nE,ec⟩) d0.o f6.o x0.o x1.o HE.o f0 f2 e8 b8);clear f0 f2 e8 b8 x1 y3 d0 f6 x0 A0)
       go_roundw
       case rel=>exact ⟨i+1,L++[E],by go_num,by omega,by rw [List.length_append,i9.o];rfl,p1.o⟩
       case measure=>simp [intOf];omega
      ·have hq:decide ((i:Int)<(N:Int))=false:=by simp;omega
       obtain rfl:i=N:=by omega
       have e0:=zjy (p9.o.moved f5.o.2);have y9:=zjy HO.o.vec;have z0:=zjy HO.o.dicts;clear HO f5 hi;go_wp2_with fail
       refine (pars_deal D i _ e0.o.l.m.deck b6).mono ?_;rintro e wp ⟨pv,P,rfl,k2,hP,mp⟩;obtain ⟨pa,pc,rfl⟩:=k2.slice;have i5:=zjy (show P.length=i from hP.len);have y7:=zjy (pars_in hP);have i0:=zjy (e0.o.moved mp);have h6:=zjy (y9.o.movedD mp);have p0:=zjy k2;rw [i5.o] at p0 ⊢;clear k2 hP mp e0 y9 p9;go_wp2_with fail
       refine zal (fun WP hWP=>?_)
       have bP:=xal hWP
       have gP:WP.heap[wp.heap.size]?=some (.cells #[.slice a3 m3 c3,.slice pa i pc] 35 (0,0)):=by rw [hWP];exact zac rfl
       obtain ⟨gp,t4⟩:=xex (wp.heap.size);have b2:=zjy (i0.o.below bP);have y8:=zjy (h6.o.below bP);have b9:=zjy (b2.o.l.m.base j0.o c7)
       have HQ:=zjy (show ∀ x:Nat,x<2->∃ (qa:Option Addr) (qn qc:Nat) (Q:List ParL),WP.cell? ⟨wp.heap.size,x,none⟩=some (.slice qa qn qc)/\Vec WP zau 3 zcm (.slice qa qn qc) Q/\Q.length=qn/\(∀ p∈Q,InI p.len)/\Q.length<=1000000 from fun x hx=>by
        have:x=0\/x=1:=by omega
        rcases this with rfl | rfl
        ·exact ⟨_,_,_,Ps,(cell_of_row _ _ _ _ _ _ gP).trans rfl,H3.o.below b9.o,z4.o,F7.o,by rw [z4.o];omega⟩
        ·exact ⟨_,_,_,P,(cell_of_row _ _ _ _ _ _ gP).trans rfl,(p0.o.below bP).any,i5.o,y7.o,by rw [i5.o];omega⟩)
       have q5:=zaa gP;rw [t4] at HQ q5 ⊢;clear hWP bP gP t4 i0 h6 p0;go_loopw [135] (fun t wr=>∃ x:Nat,t = .int .i64 x/\x<=2/\Below WP.heap.size WP wr) (fun t _=>2 - (intOf t).toNat)
       case atStart=>exact ⟨0,rfl,by omega,Below.refl _ _⟩
       case round =>
        obtain ⟨x,rfl,hx,hb⟩:=hrel;obtain ⟨W4,D9⟩:∃ u,u=wr:=⟨_,rfl⟩;subst D9;have e7:=zjy hb;clear hb;by_cases hlx:x<2
        ·have j8:decide ((x:Int)<2)=true:=by simp;omega
         have C5:(x:Int)<2:=by omega
         obtain ⟨qa,qn,qc,Q,s6,r8,s4,s5,r9⟩:=HQ.o x hlx;have j9:=(e7.o.cell (p:=⟨gp,x,none⟩) q5).trans s6;have y4:=zjy (r8.below e7.o);have HQl:=zjy s4;have y6:=zjy s5;have y5:=zjy r9;clear s6 r8 s4 s5 r9;go_wp2_with fail
         refine zal (fun WQ hWQ=>?_)
         have bQ:=xal hWQ
         have gQ:WQ.heap[W4.heap.size]?=some (.cells #[.slice a4 m4 c4,.slice ra nR rc] 37 (0,0)):=by rw [hWQ];exact zac rfl
         obtain ⟨gq,t3⟩:=xex (W4.heap.size);have e6:=xhh e7 bQ;have o9:=zjy (y4.o.below bQ)
         have y1:=zjy (show ∀ y:Nat,y<2->∃ (ya:Option Addr) (yn yc:Nat) (R':List RecL),WQ.cell? ⟨W4.heap.size,y,none⟩=some (.slice ya yn yc)/\RecsVec WQ zau (.slice ya yn yc) R'/\R'.length=yn/\(∀ r∈R',∀ x∈r.vals,x.length<=1000000)/\(∀ r∈R',r.vals.length<=1000000)/\R'.length<=1000000 from fun y hy=>by
          have:y=0\/y=1:=by omega
          rcases this with rfl | rfl
          ·exact ⟨_,_,_,Rs,(cell_of_row _ _ _ _ _ _ gQ).trans rfl,H4.o.below (b9.o.trans (e6.o.mono b9.o.size)),i8.o,fun r hr x hx=>by have:=(y2.o r hr).2 x hx;omega,fun r hr=>by have:=(y2.o r hr).1;omega,by rw [i8.o];omega⟩
          ·exact ⟨_,_,_,R,(cell_of_row _ _ _ _ _ _ gQ).trans rfl,(b2.o.below e6.o).r.any,z1.o,fun r hr x hx=>by have:=d7.o.short r hr x hx;omega,d7.o.vals (by rw [HN.o];omega),by rw [z1.o];omega⟩)
         have q4:=zaa gQ;rw [t3] at y1 q4 ⊢;clear hWQ bQ gQ t3 j9 y4;go_loopw [143] (fun t wr=>∃ y:Nat,t = .int .i64 y/\y<=2/\Below WQ.heap.size WQ wr) (fun t _=>2 - (intOf t).toNat)
         case atStart=>exact ⟨0,rfl,by omega,Below.refl _ _⟩
         case round =>
          obtain ⟨y,rfl,hy,hb⟩:=hrel;obtain ⟨W5,D8⟩:∃ u,u=wr:=⟨_,rfl⟩;subst D8;have c0:=zjy hb;clear hb;by_cases hly:y<2
          ·have j7:decide ((y:Int)<2)=true:=by simp;omega
           have C4:(y:Int)<2:=by omega
           obtain ⟨ya,yn,yc,R',r4,a8,r3,q7,q9,q8⟩:=y1.o y hly;have j3:=(c0.o.cell (p:=⟨gq,y,none⟩) q4).trans r4;have x2:=zjy (a8.below c0.o);have HYl:=zjy r3;have x3:=zjy q7;have x5:=zjy q9;have x4:=zjy q8;clear r4 a8 r3 q7 q9 q8;go_wp2_with fail
           refine zal (fun WS2 hWS2=>?_)
           have bS:=xal hWS2
           have gS:WS2.heap[W5.heap.size]?=some (.cells #[.slice a5 m5 c5,.slice va i vc] 43 (0,0)):=by rw [hWS2];exact zac rfl
           obtain ⟨gs,t1⟩:=xex (W5.heap.size);have h9:=xhh c0 bS;have p7:=zjy (e6.o.trans ((c0.o.trans (bS.mono c0.o.size)).mono e6.o.size));have h0:=zjy (o9.o.below (c0.o.trans (bS.mono c0.o.size)));have f8:=zjy (x2.o.below bS);have p8:=zjy (b2.o.below p7.o)
           have z9:=zjy (show ∀ z:Nat,z<2->∃ (da:Option Addr) (dn dc:Nat) (D':List (List zc2)),WS2.cell? ⟨W5.heap.size,z,none⟩=some (.slice da dn dc)/\SlsVec 2 zd1 WS2 zau (.slice da dn dc) D'/\D'.length=dn/\(∀ E∈D',E.length<=1000000)/\D'.length<=1000000 from fun z hz=>by
            have:z=0\/z=1:=by omega
            rcases this with rfl | rfl
            ·exact ⟨_,_,_,Ds,(cell_of_row _ _ _ _ _ _ gS).trans rfl,H5.o.below (b9.o.trans (p7.o.mono b9.o.size)),i7.o,fun E hE=>by have:=F4.o E hE;omega,by rw [i7.o];omega⟩
            ·exact ⟨_,_,_,L,(cell_of_row _ _ _ _ _ _ gS).trans rfl,(y8.o.below p7.o).weaken fun _ _ _=>trivial,i9.o,fun E hE=>by have:=(z0.o E hE).len;omega,by rw [i9.o];omega⟩)
           have q3:=zaa gS;rw [t1] at z9 q3 ⊢;clear hWS2 bS gS t1 j3 x2;go_loopw [151] (fun t wr=>∃ z:Nat,t = .int .i64 z/\z<=2/\Below WS2.heap.size WS2 wr) (fun t _=>2 - (intOf t).toNat)
           case atStart=>exact ⟨0,rfl,by omega,Below.refl _ _⟩
           case round =>
            obtain ⟨z,rfl,hz,hb⟩:=hrel;obtain ⟨W6,D7⟩:∃ u,u=wr:=⟨_,rfl⟩;subst D7;have d9:=zjy hb;clear hb;by_cases hlz:z<2
            ·have C9:decide ((z:Int)<2)=true:=by simp;omega
             have hzi:(z:Int)<2:=by omega
             obtain ⟨da,dn,dc,D',u4,c9,D3,l5,l6⟩:=z9.o z hlz;have l7:=(d9.o.cell (p:=⟨gs,z,none⟩) q3).trans u4;have a6:=zjy (p8.o.below d9.o);have e5:=zjy (show ∀ W,Below W6.heap.size W6 W->Below WS2.heap.size WS2 W from fun W hb=>d9.o.trans (hb.mono d9.o.size))
             have m0:=fun (W:World) (hb:Below W6.heap.size W6 W)=>assessA_any (Off D) zau zau _ _ _ _ _ _ s Q _ (ka,kb) R' D' W ((a6.o.below hb).l.sa) (h0.o.below (e5.o W hb)) (f8.o.below (e5.o W hb)) (c9.below (e5.o W hb)) y6.o y5.o x3.o x5.o x4.o l6 l5
             have j6:=fun (W:World) (hb:Below W6.heap.size W6 W)=>rassess19_any (Off D) zau zau _ _ _ _ _ _ s Q _ (ka,kb) R' D' W ((a6.o.below hb).l.sa) (h0.o.below (e5.o W hb)) (f8.o.below (e5.o W hb)) (c9.below (e5.o W hb)) y6.o y5.o x3.o x5.o x4.o l6 l5
             obtain ⟨⟨XS,er⟩,hXS⟩:∃ X,zcp s Q (ka,kb) R' D'=X:=⟨_,rfl⟩;have e9:=assessAN_len s Q (ka,kb) R' D';rw [hXS] at m0 j6 e9;rw [HN.o] at e9;dsimp only at e9;have F6:=zjy m0;have o7:=zjy j6;have g7:=zjy e9;obtain ⟨s0,s1,s2,s3⟩:=zaq a6.o.l.y;obtain ⟨k0,k1⟩:=zae a6.o.z;have lY:=zaa a6.o.l.y;have lZ:=zaa a6.o.z;clear m0 j6 hXS e9 u4 c9 D3 l5 l6;go_wp2_with fail
             refine (F6.o _ (Below.refl _ _)).mono ?_;rintro e wA ⟨xv,rfl,b5,i4⟩;dsimp only at b5 ⊢;obtain ⟨xa,xc,rfl⟩:=b5.val;have g6:=zjy b5.all;have A2:=zjy i4;obtain ⟨B0,A9,A8,A7⟩:=zaq (zab i4 lY a6.o.l.y);obtain ⟨C3,C2⟩:=zae (zab i4 lZ a6.o.z);clear b5 i4 s0 s1 s2 s3 k0 k1 l7;obtain ⟨nX,k3⟩:=xex (XS.length);have E9:=zjy k3;rw [k3] at g6 ⊢;clear k3;go_wp2_with fail
             refine (o7.o _ A2.o).mono ?_;rintro e wB ⟨yv,rfl,a8,l9⟩;dsimp only at a8 ⊢;obtain ⟨yva,yvc,rfl⟩:=a8.val;have f7:=zjy a8.all;have o1:=zjy (g6.o.below l9);have A1:=xhh A2 l9;clear a8 l9 B0 A9 A8 A7 C3 C2;rw [E9.o] at f7 ⊢;have de:(er != er)=false:=by simp
             go_wp2_with fail
             refine (same_any _ _ XS wB o1.o f7.o (by have:=g7.o;omega)).mono ?_;rintro e wC ⟨rfl,u6⟩;have F5:=zjy (d9.o.trans ((A1.o.trans (u6.mono A1.o.size)).mono d9.o.size));clear u6;go_wp2_with fail
             go_roundw
             case rel=>exact ⟨z+1,by go_num,by omega,F5.o⟩
             case measure=>simp [intOf];omega
            ·have C9:decide ((z:Int)<2)=false:=by simp;omega
             go_wp2_with fail
             go_roundw
             case rel=>exact ⟨y+1,by go_num,by omega,h9.o.trans (d9.o.mono h9.o.size)⟩
             case measure=>simp [intOf];omega
          ·have j7:decide ((y:Int)<2)=false:=by simp;omega
           go_wp2_with fail
           go_roundw
           case rel=>exact ⟨x+1,by go_num,by omega,e6.o.trans (c0.o.mono e6.o.size)⟩
           case measure=>simp [intOf];omega
        ·have j8:decide ((x:Int)<2)=false:=by simp;omega
         have b4:=zjy (b2.o.below e7.o);have E7:=zjy (b9.o.trans (e7.o.mono b9.o.size));clear b2 y8 HQ b9 e7 i5 y7 d7 x9 z0;go_wp2_with fail
         refine (expos_any D i _ b4.o.l.m.deck (by omega)).mono ?_;rintro e we ⟨xv,X1,rfl,b5,n2,-,me⟩;obtain ⟨xa,xc,rfl⟩:=b5.val;have q1:=b4.o.l.m.deck.lt;have o4:=zjy (b5.dealtD q1);have g8:=zjy n2;rw [n2] at o4 ⊢;have Me:=zjy me;clear b5 n2 me;go_wp2_with fail
         refine (zb5 D we 6 Me.o.deck (by omega) (by omega)).mono ?_;rintro e wf ⟨r,rfl,r0,r6,mf⟩;obtain ⟨m,rfl⟩:∃ m:Nat,r=m:=⟨r.toNat,by omega⟩;have hm6:m<6:=by omega
         have Mf:=zjy (Me.o.trans mf);have x7:=zjy (o4.o.offD mf);clear mf r0 r6 o4 Me;have C6:=wrap_id (1+(m:Int)) (by omega) (by omega);go_wp2_with fail
         have l3:=expos_any D (1+m) wf Mf.o.deck (by omega);rw [show ((1+m:Nat):Int)=1+(m:Int) by omega] at l3;refine l3.mono ?_;rintro e wg ⟨yv,Y1,rfl,a8,n0,-,mg⟩;obtain ⟨ya,yc,rfl⟩:=a8.val;have q0:=Mf.o.deck.lt;have o0:=zjy (a8.dealtD q0);have f9:=zjy n0;rw [n0] at o0 ⊢;have Mg:=zjy (Mf.o.trans mg);have x6:=zjy (x7.o.offD mg);clear a8 n0 mg l3 x7 Mf C6;go_wp2_with fail
         refine zal (fun WG hWG=>?_)
         have bG:=xal hWG
         have gG:WG.heap[wg.heap.size]?=some (.cells #[.slice a1 m1 c1,.slice xa i xc,.slice ya (1+m) yc,.slice none 0 0] 46 (0,0)):=by rw [hWG];exact zac rfl
         have i6:=zjy (b4.o.l.m.trans (Mg.o.below bG));have E6:=zjy (i6.o.base j0.o c7);have j1:Moved D wg WG:=(Moved.start Mg.o.deck).below bG
         have z7:=zjy (show ∀ x:Nat,x<4->∃ (ea:Option Addr) (en ec:Nat) (X:List Ex),WG.cell? ⟨wg.heap.size,x,none⟩=some (.slice ea en ec)/\ExRow WG (Off D) (.slice ea en ec) X/\X.length=en/\en<=20 from fun x hx=>by
          have:x=0\/x=1\/x=2\/x=3:=by omega
          rcases this with rfl | rfl | rfl | rfl
          ·exact ⟨_,_,_,Es1,(cell_of_row _ _ _ _ _ _ gG).trans rfl,H1.o.arg E6.o c7,F3.o,g1⟩
          ·exact ⟨_,_,_,X1,(cell_of_row _ _ _ _ _ _ gG).trans rfl,x6.o.offD j1,g8.o,by omega⟩
          ·exact ⟨_,_,_,Y1,(cell_of_row _ _ _ _ _ _ gG).trans rfl,o0.o.offD j1,f9.o,by omega⟩
          ·exact ⟨_,_,_,[],(cell_of_row _ _ _ _ _ _ gG).trans rfl,zd5 _ _,rfl,by omega⟩)
         have C1:=zaa gG;obtain ⟨gg,t6⟩:=xex (wg.heap.size);have A4:=Mg.o.deck.lt;have E3:=zjy (show DeckAt WG D from i6.o.deck);rw [t6] at z7 C1 A4 ⊢;clear hWG bG gG t6 j1 x6 o0 Mg b4 E7 q1 q0 g8 f9;go_loopw [196] (fun t wr=>∃ x:Nat,t = .int .i64 x/\x<=4/\Moved D WG wr) (fun t _=>4 - (intOf t).toNat)
         case atStart=>exact ⟨0,rfl,by omega,Moved.start E3.o⟩
         case round =>
          obtain ⟨x,rfl,hx,hm⟩:=hrel;obtain ⟨W7,D6⟩:∃ u,u=wr:=⟨_,rfl⟩;subst D6;have h7:=zjy hm;clear hm;by_cases hlx:x<4
          ·have j8:decide ((x:Int)<4)=true:=by simp;omega
           have C5:(x:Int)<4:=by omega
           obtain ⟨ea,en,ec,X,u3,e3,u0,D2⟩:=z7.o x hlx;have l4:=cell_moved h7.o (by omega) u3;have g6:=zjy (e3.offD h7.o);have g7:=zjy u0;clear u3 e3 u0;go_wp2_with fail
           refine (expos_any D i _ h7.o.deck (by omega)).mono ?_;rintro e wh ⟨zv,Z1,rfl,j2,m6,-,mh⟩;obtain ⟨za,zc,rfl⟩:=j2.val;have g0:=zjy (g6.o.offD mh);have z3:=zjy (h7.o.trans mh);have n9:=zjy j2.toAll;have E4:=zjy m6;rw [m6] at n9 ⊢;clear j2 m6 mh l4 g6;go_wp2_with fail
           refine zal (fun WH hWH=>?_)
           have bH:=xal hWH
           have gH:WH.heap[wh.heap.size]?=some (.cells #[.slice a2 m2 c2,.slice za i zc,.slice ea en ec] 46 (0,0)):=by rw [hWH];exact zac rfl
           have z2:=zjy (z3.o.below bH);have E5:=zjy ((i6.o.trans z2.o).base j0.o c7);have o2:=zjy (g0.o.toAll.below bH)
           have z8:=zjy (show ∀ y:Nat,y<3->∃ (fa:Option Addr) (fn fc:Nat) (F:List Ex),WH.cell? ⟨wh.heap.size,y,none⟩=some (.slice fa fn fc)/\ExRow WH (All WH) (.slice fa fn fc) F/\F.length=fn/\fn<=20 from fun y hy=>by
            have:y=0\/y=1\/y=2:=by omega
            rcases this with rfl | rfl | rfl
            ·exact ⟨_,_,_,Es2,(cell_of_row _ _ _ _ _ _ gH).trans rfl,(H2.o.arg E5.o c7).toAll,F1.o,g2⟩
            ·exact ⟨_,_,_,Z1,(cell_of_row _ _ _ _ _ _ gH).trans rfl,n9.o.below bH,E4.o,by omega⟩
            ·exact ⟨_,_,_,X,(cell_of_row _ _ _ _ _ _ gH).trans rfl,o2.o,g7.o,D2⟩)
           have q6:=zaa gH;obtain ⟨gh,t5⟩:=xex (wh.heap.size);rw [t5] at z8 q6 ⊢;clear hWH bH gH t5 g0 z3 n9;go_loopw [207] (fun t wr=>∃ y:Nat,t = .int .i64 y/\y<=3/\Below WH.heap.size WH wr) (fun t _=>3 - (intOf t).toNat)
           case atStart=>exact ⟨0,rfl,by omega,Below.refl _ _⟩
           case round =>
            obtain ⟨y,rfl,hy,hb⟩:=hrel;obtain ⟨W8,D5⟩:∃ u,u=wr:=⟨_,rfl⟩;subst D5;have b1:=zjy hb;clear hb;by_cases hly:y<3
            ·have j7:decide ((y:Int)<3)=true:=by simp;omega
             have C4:(y:Int)<3:=by omega
             obtain ⟨fa,fn,fc,F,t8,t7,D1,hfn⟩:=z8.o y hly;have l2:=(b1.o.cell (p:=⟨gh,y,none⟩) q6).trans t8;have d6:=zjy (fun (W:World) (hb:Below W8.heap.size W8 W)=>o2.o.below (b1.o.trans (hb.mono b1.o.size)))
             have d8:=zjy (fun (W:World) (hb:Below W8.heap.size W8 W)=>t7.below (b1.o.trans (hb.mono b1.o.size)))
             have n1:=g7.o;have K1:=zjy (fun (W:World) (hb:Below W8.heap.size W8 W)=>enter_post _ _ X F W (d6.o W hb) (d8.o W hb) (by omega) (by omega))
             have K2:=zjy (fun (W:World) (hb:Below W8.heap.size W8 W)=>renter19_post _ _ X F W (d6.o W hb) (d8.o W hb) (by omega) (by omega))
             have K3:=zjy (fun (W:World) (hb:Below W8.heap.size W8 W)=>within_any _ _ X F W (d6.o W hb) (d8.o W hb) (by omega) (by omega))
             have K4:=zjy (fun (W:World) (hb:Below W8.heap.size W8 W)=>zi5 _ _ X F W (d6.o W hb) (d8.o W hb) (by omega) (by omega))
             have K5:=zjy (fun (W:World) (hb:Below W8.heap.size W8 W)=>zjw _ _ X F W (d6.o W hb) (d8.o W hb) (by omega) (by omega))
             have K6:=zjy (fun (W:World) (hb:Below W8.heap.size W8 W)=>radmit19_any _ _ X F W (d6.o W hb) (d8.o W hb) (by omega) (by omega))
             have z6:=zjy (enterL_len X F);unfold zhu at K1 K2;obtain ⟨er,t9⟩:=xex (zdm X F);obtain ⟨EL,n4⟩:=xex (enterL X F);obtain ⟨wi,r7⟩:=xex (decide (zcq X F=0));obtain ⟨ad,v9⟩:=xex (zcq X F);rw [t9,n4] at K1 K2;rw [n4] at z6;rw [r7] at K3 K4;rw [v9] at K5 K6;clear t9 n4 r7 v9 t8 t7 D1 n1 d6 d8;go_wp2_with fail
             refine (K1.o _ (Below.refl _ _)).mono ?_;rintro e v1 ⟨u1,rfl,j5,b7⟩;obtain ⟨ua,uc,rfl⟩:=j5.val;have o6:=zjy j5;have B1:=zjy b7;obtain ⟨nE,e2⟩:=xex (EL.length);have F0:=zjy e2;rw [e2] at o6 ⊢;clear j5 b7 e2 l2;go_wp2_with fail
             refine (K2.o _ B1.o).mono ?_;rintro e v2 ⟨u2,rfl,j4,b3⟩;obtain ⟨ub,ud,rfl⟩:=j4.val;have x8:=zjy j4;have B2:=xhh B1 b3;have o5:=zjy (o6.o.below b3);rw [F0.o] at x8 ⊢;clear j4 b3 o6;have de:(er != er)=false:=by simp
             go_wp2_with fail
             refine (same_any _ _ EL v2 o5.o x8.o z6.o).mono ?_;rintro e v3 ⟨rfl,v8⟩;have B3:=xhh B2 v8;clear v8;go_wp2_with fail
             refine (K3.o _ B3.o).mono ?_;rintro e v4 ⟨rfl,v0⟩;have B4:=xhh B3 v0;clear v0;go_wp2_with fail
             refine (K4.o _ B4.o).mono ?_;rintro e v5 ⟨rfl,u9⟩;have B5:=xhh B4 u9;clear u9;have dw:(wi != wi)=false:=by simp
             go_wp2_with fail
             refine (K5.o _ B5.o).mono ?_;rintro e v6 ⟨rfl,u8⟩;have B6:=xhh B5 u8;clear u8;go_wp2_with fail
             refine (K6.o _ B6.o).mono ?_;rintro e v7 ⟨rfl,u7⟩;have B7:=xhh B6 u7;clear u7;have da:(ad != ad)=false:=by simp
             go_wp2_with fail
             go_roundw
             case rel=>exact ⟨y+1,by go_num,by omega,b1.o.trans (B7.o.mono b1.o.size)⟩
             case measure=>simp [intOf];omega
            ·have j7:decide ((y:Int)<3)=false:=by simp;omega
             have o3:=zjy (fun (W:World) (hb:Below W8.heap.size W8 W)=>o2.o.below (b1.o.trans (hb.mono b1.o.size)))
             have n1:=g7.o;have K1:=zjy (fun (W:World) (hb:Below W8.heap.size W8 W)=>zh8 _ _ _ X W (o3.o W hb) (by omega))
             have K2:=zjy (fun (W:World) (hb:Below W8.heap.size W8 W)=>zeg _ X W (o3.o W hb) (by omega))
             obtain ⟨ck,u5⟩:=xex (ze4 X);rw [u5] at K1 K2;clear u5 n1 o3;go_wp2_with fail
             refine (K1.o _ (Below.refl _ _)).mono ?_;rintro e v1 ⟨rfl,b7⟩;have B1:=zjy b7;clear b7;go_wp2_with fail
             refine (K2.o _ B1.o).mono ?_;rintro e v2 ⟨rfl,b3⟩;have B2:=zjy (b1.o.trans ((B1.o.trans (b3.mono B1.o.size)).mono b1.o.size));clear b3;have dc:(ck != ck)=false:=by simp
             go_wp2_with fail
             go_roundw
             case rel=>exact ⟨x+1,by go_num,by omega,z2.o.below B2.o⟩
             case measure=>simp [intOf];omega
          ·have j8:decide ((x:Int)<4)=false:=by simp;omega
           have p5:=zjy ((i6.o.trans h7.o).base j0.o c7);go_wp2_with fail
           go_ret;exact ⟨rfl,p5.o⟩
end
end Go.Proofs.YtgkaafncfjlooaaGreatDoor
