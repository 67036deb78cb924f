/- Parts of one proof: RefDateA, RefDateB, RefSchB, RefSchC, MakeZZ, DeckRec, Drawn, DeckRecB, AtkAnd, AtkRow, AtkRank, AtkSizes, AtkAlways, AppendM, AtkDel, RefGramPlain, RefGramA, AtkCheck, AtkDelB. -/
import Derived.Test.YtgkaafncfjlooaaGreatDoorPartEx4
import Derived.Lib.SliceRun
set_option maxHeartbeats 16000000
set_option maxRecDepth 100000
open Go.Proofs.Tryz
set_option linter.unusedSimpArgs false
set_option linter.unusedVariables false
namespace Go.Proofs.YtgkaafncfjlooaaGreatDoor
section
open Go.RowKit Cal
theorem rlen_any (y m:Int) (w:World) (h:0<=y) (h1:1<=m) (h2:m<=12) :
  Calls prog 202 #[.int .i64 y,.int .i64 m] w fun e w'=>e = .returned (.int .i64 (dim y m))/\w=w':=by
 go_enter func202,ntmps202
 go_wp2
 all_goals go_ret
 all_goals refine ⟨zim ?_,rfl⟩
 all_goals simp only [beq_iff_eq,beq_eq_false_iff_ne,ne_eq,bne_iff_ne] at *
 all_goals simp [dim,leapB, *]
theorem rvalid_no (y m d:Int) (w:World) (hv:vldB y m d=false) :
  Calls prog 173 #[.agg #[.int .i64 y,.int .i64 m,.int .i64 d]] w fun e w'=>e = .returned (.bool false)/\Below w.heap.size w w':=by
 have hh:decide (1800<=y)=false\/(1800<=y/\decide (y<=2199)=false)\/(1800<=y/\y<=2199/\decide (1<=m)=false)\/(1800<=y/\y<=2199/\1<=m/\decide (m<=12)=false)\/(1800<=y/\y<=2199/\1<=m/\m<=12/\decide (1<=d)=false)\/(1800<=y/\y<=2199/\1<=m/\m<=12/\1<=d/\decide (d<=dim y m)=false):=by
  have:=vld_iff y m d;rw [hv] at this;simp at this ⊢;omega
 clear hv
 rcases hh with h | ⟨_,h⟩ | ⟨_,_,h⟩ | ⟨_,_,_,h⟩ | ⟨_,_,_,_,h⟩ | ⟨_,_,_,_,_,h⟩
 iterate 5
  ·go_enter func173,ntmps173
   go_wp2
   go_quiet (fail)
   go_wp2
   go_ret;exact ⟨rfl,below_drewN ((Below.refl _ _).alloc xnl _) _⟩
 go_enter func173,ntmps173
 go_wp2
 go_quiet ((go_at_call 202;exact quiet_eq (rlen_any _ _ _ (by omega) (by omega) (by omega))))
 go_wp2
 go_ret;exact ⟨rfl,below_drewN ((Below.refl _ _).alloc xnl _) _⟩
theorem rvalid_yes (y m d:Int) (w:World) (hv:vldB y m d=true) :
  Calls prog 173 #[.agg #[.int .i64 y,.int .i64 m,.int .i64 d]] w fun e w'=>e = .returned (.bool true)/\Below w.heap.size w w':=by
 obtain ⟨h1,h2,h3,h4,h5,h6⟩:=(vld_iff y m d).1 hv;clear hv;go_enter func173,ntmps173
 go_wp2
 go_quiet ((go_at_call 202;exact quiet_eq (rlen_any _ _ _ (by omega) (by omega) (by omega))))
 go_wp2
 go_ret;exact ⟨rfl,below_drewN ((Below.refl _ _).alloc xnl _) _⟩
theorem zil (s:ByteArray) (w:World) (hs:s.size<=4) :
  Calls prog 201 #[.string s] w fun e w'=>e = .returned (.tuple #[.int .i64 ((zbd 0 s.data.toList).getD 0),.bool (zbd 0 s.data.toList).isSome])/\w=w':=by
 go_enter func201,ntmps201
 go_wp2
 go_loop [4,5] (fun n i=>∃ (k:Nat) (N:Int),k<=s.size/\i = .int .i64 k/\n = .int .i64 N/\zbd 0 (s.data.toList.take k)=some N/\0<=N/\N<10 ^ k) (fun _ i=>s.size - (intOf i).toNat)
 case atStart=>exact ⟨0,0,Nat.zero_le _,rfl,rfl,rfl,by decide,by decide⟩
 case round =>
  obtain ⟨k,N,hk,rfl,rfl,hN,h0,h1⟩:=hrel;have HN:=zjy hN;clear hN
  have hp:(10:Int) ^ k<=10000:=by
   have:k=0\/k=1\/k=2\/k=3\/k=4:=by omega
   rcases this with rfl | rfl | rfl | rfl | rfl <;> decide
  have hN4:N<10000:=by omega
  have H1:=zjy h1;clear h1 hp;by_cases hlt:k<s.size
  ·go_wp2
   ·go_ret2
    exact ⟨by have:=zg0 s k hlt N HN.o (by omega);rw [this];rfl,rfl⟩
   ·have hs:=zhi s k hlt N HN.o
    rw [if_pos ‹_›] at hs;have h1:=H1.o;have e1:(10:Int) ^ (k+1)=10 ^ k*10:=by rw [Int.pow_succ]
    go_round
    case rel=>exact ⟨k+1,_,by omega,by go_num,rfl,hs,by omega,by omega⟩
    case measure=>simp [intOf];omega
   ·go_ret2
    exact ⟨by have:=zg0 s k hlt N HN.o (by omega);rw [this];rfl,rfl⟩
  ·go_wp2
   go_ret2;obtain rfl:k=s.size:=by omega
   exact ⟨by have:=HN.o;rw [List.take_of_length_le (by simp)] at this;rw [this];rfl,rfl⟩
theorem numI_none {l:List UInt8} (h:zbd 0 l=none):zeh l = -1:=by simp [zeh,h]
theorem numI_some {l:List UInt8} {N:Int} (h:zbd 0 l=some N):zeh l=N:=by simp [zeh,h]
theorem dateR_no {a b c:List UInt8} (h:vldB (zeh a) (zeh b) (zeh c)=false):dateL a b c = .tuple #[.agg #[.int .i64 0,.int .i64 0,.int .i64 0],.int .i64 4]:=by
 unfold dateL dateR dateV;rw [h];rfl
theorem dateR_yes {a b c:List UInt8} (h:vldB (zeh a) (zeh b) (zeh c)=true):dateL a b c = .tuple #[.agg #[.int .i64 (zeh a),.int .i64 (zeh b),.int .i64 (zeh c)],.int .i64 0]:=by
 unfold dateL dateR dateV;rw [h];rfl
theorem rmade_any (a b c:ByteArray) (w:World) (ha:a.size<=4) (hb:b.size<=4) (hc:c.size<=4) :
  Calls prog 172 #[.string a,.string b,.string c] w fun e w'=>e = .returned (dateR (zeh a.data.toList) (zeh b.data.toList) (zeh c.data.toList) 4)/\Below w.heap.size w w':=by
 have Ka:=fun w=>zjy (zil a w ha)
 have Kb:=fun w=>zjy (zil b w hb)
 have Kc:=fun w=>zjy (zil c w hc)
 rw [show dateR (zeh a.data.toList) (zeh b.data.toList) (zeh c.data.toList) 4=dateL a.data.toList b.data.toList c.data.toList from rfl]
 have a3:(zbd 0 a.data.toList).isSome=false\/(zbd 0 b.data.toList).isSome=false\/(zbd 0 c.data.toList).isSome=false->vldB (zeh a.data.toList) (zeh b.data.toList) (zeh c.data.toList)=false:=by
  intro h
  have:¬ vldB (zeh a.data.toList) (zeh b.data.toList) (zeh c.data.toList)=true:=by
   rw [vld_iff];simp only [Option.isSome_eq_false_iff,Option.isNone_iff_eq_none] at h
   rcases h with h | h | h <;> (have:=numI_none h;omega)
  simpa using this
 by_cases hall:(zbd 0 a.data.toList).isSome=true/\(zbd 0 b.data.toList).isSome=true/\(zbd 0 c.data.toList).isSome=true
 ·obtain ⟨h1,h2,h3⟩:=hall
  have e1:(zbd 0 a.data.toList).getD 0=zeh a.data.toList:=by obtain ⟨N,h⟩:=Option.isSome_iff_exists.1 h1;rw [numI_some h,h];rfl
  have e2:(zbd 0 b.data.toList).getD 0=zeh b.data.toList:=by obtain ⟨N,h⟩:=Option.isSome_iff_exists.1 h2;rw [numI_some h,h];rfl
  have e3:(zbd 0 c.data.toList).getD 0=zeh c.data.toList:=by obtain ⟨N,h⟩:=Option.isSome_iff_exists.1 h3;rw [numI_some h,h];rfl
  simp only [h1,e1] at Ka;simp only [h2,e2] at Kb;simp only [h3,e3] at Kc;clear h1 h2 h3 e1 e2 e3 a3;cases hv:vldB (zeh a.data.toList) (zeh b.data.toList) (zeh c.data.toList)
  all_goals
   first | rw [dateR_no hv] | rw [dateR_yes hv]
   first | have KV:=fun w=>zjy (rvalid_no _ _ _ w hv) | have KV:=fun w=>zjy (rvalid_yes _ _ _ w hv)
   clear hv;go_enter func172,ntmps172
   go_wp2_with fail
   refine (Ka _).o.mono ?_;rintro e w' ⟨rfl,rfl⟩;go_wp2_with fail
   refine (Kb _).o.mono ?_;rintro e w' ⟨rfl,rfl⟩;go_wp2_with fail
   refine (Kc _).o.mono ?_;rintro e w' ⟨rfl,rfl⟩;go_wp2_with fail
   refine (KV _).o.mono ?_;rintro e w1 ⟨rfl,a2⟩;obtain ⟨hc1,hf1⟩:=bcell a2;have hz1:w.heap.size+1<w1.heap.size:=by have:=a2.size;simp at this;omega
   go_wp2_with fail
   have hg:w1.heap[w.heap.size]?=some (.cells #[.int .i64 0,.int .i64 0,.int .i64 0] 141 (0,0)):=zab a2 (by simp;omega) (zaf (zac rfl));exact zai rfl rfl (zad (zad (zad hg))) underlying141 rfl (by kernel_rfl) ⟨rfl,((((((Below.refl _ _).alloc xnl _).alloc (by simp) _).trans (a2.mono (by simp;omega))).setCell (by simp) _).setCell (by simp) _).setCell (by simp) _⟩
 ·have a0:(zbd 0 a.data.toList).isSome=false\/((zbd 0 a.data.toList).isSome=true/\(zbd 0 b.data.toList).isSome=false)\/((zbd 0 a.data.toList).isSome=true/\(zbd 0 b.data.toList).isSome=true/\(zbd 0 c.data.toList).isSome=false):=by
   cases h1:(zbd 0 a.data.toList).isSome <;> cases h2:(zbd 0 b.data.toList).isSome <;> cases h3:(zbd 0 c.data.toList).isSome <;> simp_all
  have a1:=a3 (by rcases a0 with h | ⟨_,h⟩ | ⟨_,_,h⟩ <;> simp [h]);rw [dateR_no a1];clear a3 hall a1
  rcases a0 with h1 | ⟨h1,h2⟩ | ⟨h1,h2,h3⟩
  all_goals
   try simp only [h1] at Ka
   try simp only [h2] at Kb
   try simp only [h3] at Kc
   try clear h1
   try clear h2
   try clear h3
   go_enter func172,ntmps172
   go_wp2_with fail
   refine (Ka _).o.mono ?_;rintro e w' ⟨rfl,rfl⟩;go_wp2_with fail
   refine (Kb _).o.mono ?_;rintro e w' ⟨rfl,rfl⟩;go_wp2_with fail
   refine (Kc _).o.mono ?_;rintro e w' ⟨rfl,rfl⟩;go_wp2_with fail
   exact zai rfl rfl (zaf (zac rfl)) underlying141 rfl (by kernel_rfl) ⟨rfl,((Below.refl _ _).alloc xnl _).alloc (by simp) _⟩
theorem rread_any (s:ByteArray) (w:World) :
  Calls prog 160 #[.string s] w fun e w'=>e = .returned (bif decide (s.size=8) then dateL (s.data.toList.take 4) ((s.data.toList.drop 4).take 2) ((s.data.toList.drop 6).take 2) else dateV false 0 0 0 4)/\Below w.heap.size w w':=by
 by_cases h:s.size=8
 ·have hs:((s.size:Int) == 8)=true:=by simp;omega
  simp only [h,decide_true,cond_true];go_enter func160,ntmps160
  go_wp2
  go_region_held3 (fun _=>True) (trivial) (first | (go_at_call 172;refine (rmade_any _ _ _ _ (by simp;omega) (by simp;omega) (by simp;omega)).mono ?_;rintro e w1 ⟨rfl,a0⟩;obtain ⟨hc1,hf1⟩:=bcell a0;have hz1:w.heap.size<w1.heap.size:=(by have:=a0.size;simp at this;omega)))
  go_wp2
  have hg:w1.heap[w.heap.size]?=some (.cells #[.int .i64 0,.int .i64 0,.int .i64 0] 141 (0,0)):=zab a0 (by simp) (heap_alloc_new _ _);exact zai rfl rfl (zad (zad (zad hg))) underlying141 rfl (by kernel_rfl) ⟨rfl,(((((Below.refl _ _).alloc xnl _).drew.trans (a0.mono (by simp))).setCell (by simp) _).setCell (by simp) _).setCell (by simp) _⟩
 ·have hs:((s.size:Int) == 8)=false:=by simp;omega
  simp only [h,decide_false,cond_false];go_enter func160,ntmps160
  go_wp2
  exact zai rfl rfl (heap_alloc_new _ _) underlying141 rfl (by kernel_rfl) ⟨rfl,((Below.refl _ _).alloc xnl _)⟩
theorem rparse_ten (s : ByteArray) (w : World) (h : s.size = 10) :
    Calls prog 127 #[.string s] w fun e w' => e = .returned (parseV s) ∧ Below w.heap.size w w' := by
  have hs : ((s.size : Int) == 10) = true := by simp; omega
  go_enter func127, ntmps127
  go_wp2
  all_goals
    have e2 := zek s 2 (by omega)
    have e4 := zek s 4 (by omega)
    have e5 := zek s 5 (by omega)
    have e7 := zek s 7 (by omega)
  all_goals
    first
    | exact zai rfl rfl (heap_alloc_new _ _) underlying141 rfl (by kernel_rfl) ⟨congrArg Ending.returned (by (try simp only [beq_iff_eq, beq_eq_false_iff_ne, ne_eq] at *); simp [parseV, pk_false, cd_false, *]; try rfl), ((Below.refl _ _).alloc xnl _)⟩
    | (clear e2 e4 e5 e7
       go_region_held3 (fun _ => True) (trivial) (first | (go_at_call 172; refine (rmade_any _ _ _ _ (by simp; omega) (by simp; omega) (by simp; omega)).mono ?_; rintro e w1 ⟨rfl, hb1⟩; obtain ⟨hc1, hf1⟩ := bcell hb1; have hz1 : w.heap.size < w1.heap.size := (by have := hb1.size; simp at this; omega)))
       go_wp2
       have hg : w1.heap[w.heap.size]? = some (.cells #[.int .i64 0, .int .i64 0, .int .i64 0] 141 (0, 0)) := zab hb1 (by simp) (heap_alloc_new _ _)
       have e2 := zek s 2 (by omega)
       have e4 := zek s 4 (by omega)
       have e5 := zek s 5 (by omega)
       have e7 := zek s 7 (by omega)
       exact zai rfl rfl (zad (zad (zad hg))) underlying141 rfl (by kernel_rfl) ⟨congrArg Ending.returned (by (try simp only [beq_iff_eq, beq_eq_false_iff_ne, ne_eq] at *); simp [parseV, pk_false, cd_false, *]; try rfl), (((((Below.refl _ _).alloc xnl _).drew.trans (hb1.mono (by simp))).setCell (by simp) _).setCell (by simp) _).setCell (by simp) _⟩)
theorem rparse_any (s:ByteArray) (w:World) :
  Calls prog 127 #[.string s] w fun e w'=>e = .returned (parseV s)/\Below w.heap.size w w':=by
 by_cases h:s.size=10
 ·exact rparse_ten s w h
 ·have hs:((s.size:Int) == 10)=false:=by simp;omega
  rw [parseV,if_neg h];go_enter func127,ntmps127
  go_wp2
  exact zai rfl rfl (heap_alloc_new _ _) underlying141 rfl (by kernel_rfl) ⟨rfl,((Below.refl _ _).alloc xnl _)⟩
end
section
open Go.RowKit Cal
theorem hcv_two (n:Int) (h0:0<=n) (h1:n<=99):∀ w:World,(convert 175 9 (.slice (some ⟨w.heap.size,0,none⟩) 2 2)).run prog (w.alloc (.cells #[.int .u8 (48+n / 10),.int .u8 (48+n % 10)] 5)) = .ok (.string ⟨(dg n 2).toArray⟩) (w.alloc (.cells #[.int .u8 (48+n / 10),.int .u8 (48+n % 10)] 5)):=by
 intro w;have ho:=owns_new (w:=w) (B:=0) (e:=5) (dg n 2) (Nat.zero_le _) (by rw [zet];omega);rw [zet] at ho
 have e1:(dg n 2).map zga=[.int .u8 (48+n / 10),.int .u8 (48+n % 10)]:=by
  simp only [dg,List.nil_append,List.cons_append,List.map_cons,List.map_nil];rw [dgb _ (by omega),dgb _ h0];have:n / 10 % 10=n / 10:=by omega
  rw [this]
 rw [e1] at ho;exact zce (dg n 2) (by rw [e1];exact ho) underlying175 underlying5 underlying9
theorem rtwo_any (n:Int) (w:World) (h0:0<=n) (h1:n<=99) :
  Calls prog 174 #[.int .i64 n] w fun e w'=>e = .returned (.string ⟨(dg n 2).toArray⟩)/\Below w.heap.size w w':=by
 have ha:0<=n / 10/\n / 10<=9:=by omega
 have hb:0<=n % 10/\n % 10<=9:=by omega
 obtain ⟨ha1,ha2⟩:=ha;obtain ⟨hb1,hb2⟩:=hb;have hcv:=hcv_two n h0 h1;go_enter func174,ntmps174
 go_wp2
 go_ret;exact ⟨rfl,(Below.refl _ _).alloc xnl _⟩
attribute [local go_sem] zet zba
theorem rformat_yes (y m d:Int) (w:World) (hv:vldB y m d=true) :
  Calls prog 128 #[.agg #[.int .i64 y,.int .i64 m,.int .i64 d]] w fun e w'=>e = .returned (.tuple #[.string ⟨(zd2 y m d).toArray⟩,.int .i64 0])/\Below w.heap.size w w':=by
 obtain ⟨b1,b2,b3,b4,b5,b6⟩:=vld_bd hv;have q1:0<=y / 100/\y / 100<=99:=by omega
 have q2:0<=y % 100/\y % 100<=99:=by omega
 obtain ⟨q1,c8⟩:=q1;obtain ⟨q2,c7⟩:=q2
 have HD:Hid (dg (y / 100) 2++(dg (y % 100) 2++(dg m 2++dg d 2))=zd2 y m d):=by
  show _=_;rw [dg_mod y (by omega),zd2,dg_two y];simp
 have KV:=fun w=>zjy (rvalid_yes y m d w hv)
 clear hv;have c9:m<=99:=by omega
 have d1:d<=99:=by omega
 have d0:0<=d:=by omega
 have m0:0<=m:=by omega
 have e1:IntKind.i64.wrap (y.tdiv 100)=y / 100:=by rw [Int.tdiv_eq_ediv_of_nonneg (by omega)];exact IntWalk.i64_in _ ⟨by omega,by omega⟩
 have e2:y.tmod 100=y % 100:=Int.tmod_eq_emod_of_nonneg (by omega);go_enter func128,ntmps128
 go_wp2_with fail
 refine (KV _).o.mono ?_;rintro e w0 ⟨rfl,a4⟩;have z0:w.heap.size<w0.heap.size:=by clear e1 e2;have:=a4.size;simp at this;omega
 have c6:=zjy (xbt a4).drew;have c2:w0.cell? ⟨w.heap.size,0,none⟩=some (.int .i64 y):=(a4.cell (p:=⟨w.heap.size,0,none⟩) (by simp)).trans (by simp);have b8:w0.cell? ⟨w.heap.size,1,none⟩=some (.int .i64 m):=(a4.cell (p:=⟨w.heap.size,1,none⟩) (by simp)).trans (by simp);have a8:w0.cell? ⟨w.heap.size,2,none⟩=some (.int .i64 d):=(a4.cell (p:=⟨w.heap.size,2,none⟩) (by simp)).trans (by simp);clear a4;go_wp2_with fail
 refine wp_region_noPanic ?_
 refine wp_region_held_drew (S:=(fun w'=>w'.cell? ⟨w.heap.size,0,none⟩=some (.int .i64 y)/\w'.cell? ⟨w.heap.size,1,none⟩=some (.int .i64 m)/\w'.cell? ⟨w.heap.size,2,none⟩=some (.int .i64 d))) (by kernel_rfl) (⟨c2,b8,a8⟩) (fun hHeld=>?_)
 refine tH 0 ?_;refine tH 1 ?_;refine tH 2 ?_;refine tH 4 ?_;refine tH 5 ?_;refine tH 6 ?_;refine tH 9 ?_;refine tH 10 ?_;refine tH 13 ?_;refine tH 14 ?_
 refine xrH 3 rfl fun K hK=>?_
 go_simp;refine (rtwo_any _ _ q1 c8).mono ?_;rintro e w1 ⟨rfl,a3⟩;have z1:w.heap.size<w1.heap.size:=(by clear e1 e2;have:=a3.size;(try simp at this);omega);have c5:=zjy (c6.o.trans (a3.mono (by have:=c6.o.size;simpa using this)));have c1:=(a3.cell (p:=⟨w.heap.size,0,none⟩) (by simpa using z0)).trans c2;have b7:=(a3.cell (p:=⟨w.heap.size,1,none⟩) (by simpa using z0)).trans b8;have a7:=(a3.cell (p:=⟨w.heap.size,2,none⟩) (by simpa using z0)).trans a8;clear a3 c2 b8 a8
 refine hK.out _ _ (⟨c1,b7,a7⟩) (fun hHeld=>?_)
 clear hK K
 refine xrH 7 rfl fun K hK=>?_
 go_simp;refine (rtwo_any _ _ q2 c7).mono ?_;rintro e w2 ⟨rfl,a2⟩;have z2:w.heap.size<w2.heap.size:=(by clear e1 e2;have:=a2.size;(try simp at this);omega);have c4:=zjy (c5.o.trans (a2.mono (by have:=c5.o.size;simpa using this)));have c0:=(a2.cell (p:=⟨w.heap.size,0,none⟩) (by simpa using z1)).trans c1;have b0:=(a2.cell (p:=⟨w.heap.size,1,none⟩) (by simpa using z1)).trans b7;have a6:=(a2.cell (p:=⟨w.heap.size,2,none⟩) (by simpa using z1)).trans a7;clear a2 c1 b7 a7
 refine hK.out _ _ (⟨c0,b0,a6⟩) (fun hHeld=>?_)
 clear hK K;refine tH 8 ?_
 refine xrH 11 rfl fun K hK=>?_
 go_simp;refine (rtwo_any _ _ m0 c9).mono ?_;rintro e w3 ⟨rfl,a1⟩;have z3:w.heap.size<w3.heap.size:=(by clear e1 e2;have:=a1.size;(try simp at this);omega);have c3:=zjy (c4.o.trans (a1.mono (by have:=c4.o.size;simpa using this)));have b9:=(a1.cell (p:=⟨w.heap.size,0,none⟩) (by simpa using z2)).trans c0;have a9:=(a1.cell (p:=⟨w.heap.size,1,none⟩) (by simpa using z2)).trans b0;have a5:=(a1.cell (p:=⟨w.heap.size,2,none⟩) (by simpa using z2)).trans a6;clear a1 c0 b0 a6
 refine hK.out _ _ (⟨b9,a9,a5⟩) (fun hHeld=>?_)
 clear hK K;refine tH 12 ?_
 refine xrH 15 rfl fun K hK=>?_
 go_simp;refine (rtwo_any _ _ d0 d1).mono ?_;rintro e w4 ⟨rfl,a0⟩;have z4:w.heap.size<w4.heap.size:=(by clear e1 e2;have:=a0.size;(try simp at this);omega);have d5:=zjy (c3.o.trans (a0.mono (by have:=c3.o.size;simpa using this)));have d4:=(a0.cell (p:=⟨w.heap.size,0,none⟩) (by simpa using z3)).trans b9;have d3:=(a0.cell (p:=⟨w.heap.size,1,none⟩) (by simpa using z3)).trans a9;have d2:=(a0.cell (p:=⟨w.heap.size,2,none⟩) (by simpa using z3)).trans a5;clear a0 b9 a9 a5
 refine hK.out _ _ (⟨d4,d3,d2⟩) (fun hHeld=>?_)
 clear hK K;refine tH 16 ?_;refine tH 17 ?_;refine tH 18 ?_;refine wpAnyH_done (by kernel_rfl) ?_ _;refine NoPanic.normal ?_;clear e1 e2;go_wp2
 go_ret2;exact ⟨by rw [<- HD.o];simp,d5.o⟩
end
section
open Go.RowKit Cal
attribute [local go_sem] zag zaj
theorem rvalue_any (S:Nat->Prop) (vf vt vn vs:Value) (s:SchemaL) (f:Int) (x:ByteArray) (w:World) (h:SchemaAt w S vf vt vn vs s) (hx:x.size<=9223372036854775000) :
  Calls prog 86 #[.agg #[vf,vt,vn,vs],.int .i64 f,.string x] w fun e w'=>e = .returned (zdx (zct s f x.data.toList))/\Below w.heap.size w w':=by
 have HS:=zjy h.any;have HL:=zjy (Lib.toList_data x);obtain ⟨b6,c3⟩:=h;obtain ⟨af,cf,rfl⟩:=b6.slice;have c4:=zjy b6.any;have b1:∀ p,zct s f x.data.toList=p->Ending.returned (zdx p) = .returned (zdx (zct s f x.data.toList)):=fun p h=>by rw [h]
 have HF:=zjy b1;clear b6 c3 b1;have a3:zct s f x.data.toList=if (zbq s f).2=0 then (if x.data.toList=[] then ([],0) else normK (zbq s f).1 s.rules x.data.toList) else ([],(zbq s f).2):=rfl
 have a9:=zei (s:=s) (f:=f);have a4:zbq s f=if za1 s=0 then (if 0<=f/\f<s.fields.length then ((s.fields.getD f.toNat default).2,0) else (0,2)) else (0,za1 s):=rfl
 have K:=zeb zau (.slice af s.fields.length cf) vt vn vs s (w.alloc (.cells #[.slice af s.fields.length cf,vt,vn,vs] 33)) (HS.o.below ((Below.refl _ _).alloc xnl _));have b5:=fun h=>(zc3 (s:=s) h).1
 obtain ⟨c,hc⟩:=xex (za1 s);rw [hc] at K a4 b5;have HK:=zjy K;clear K;have c0:=zjy (trivial:True);by_cases he:c=0
 ·subst he
  have c2:=(b5 rfl).2;clear b5;rw [if_pos rfl] at a4;by_cases hr:0<=f/\f<s.fields.length
  ·rw [if_pos hr] at a4
   obtain ⟨r1,r2⟩:=hr;obtain ⟨k,rfl⟩:=Int.eq_ofNat_of_zero_le r1;rw [Int.toNat_natCast] at a4;have hk:k<s.fields.length:=by omega
   obtain ⟨b,off,rfl,_,hb,a7⟩:=zco c4.o (by omega);obtain ⟨y,hy⟩:=xex (s.fields.getD k default);have b7:=a7 k hk;rw [hy] at b7 a4;obtain ⟨nm,kd⟩:=y;have C1:=zjy (show w.cell? ⟨b,off+k*2+1,none⟩=some (.int .i64 kd) from b7 1 _ rfl);rw [a4] at a3 a9;dsimp only at a3 a9;have b9:=a9 rfl;rw [if_pos rfl] at a3;have b3:=zjy a3;have t1:decide ((k:Int)<0)=false:=by simp
   have t2:decide ((s.fields.length:Int)<=k)=false:=by simp;omega
   have t3:(k:Int)<(s.fields.length:Int):=by omega
   clear b7 a7 a4 a9 a3 hy r1 r2;by_cases hx0:x.data.toList=[]
   ·have e1:x.toList=[]:=by rw [HL.o,hx0]
    have HE:=zjy (show zct s (k:Int) x.data.toList=([],0) by rw [b3.o,if_pos hx0]);clear hx0 b9;go_enter func86,ntmps86
    go_wp2_with fail
    refine HK.o.mono ?_;rintro e w1 ⟨rfl,a0⟩;have a2:=zjy (xbt a0);have a1:=zjy (xbn a0);clear a0 HK;have z0:=zaa a1.o;obtain ⟨p0,p1,p2,p3⟩:=zbp a1.o;go_wp2_with fail
    go_ret2;exact ⟨HF.o _ HE.o,a2.o⟩
   ·have e1:(x.toList == [])=false:=by rw [HL.o];simpa using hx0
    have e2:x.toList.isEmpty=false:=by rw [HL.o];simpa using hx0
    have HE:=zjy (show zct s (k:Int) x.data.toList=normK kd s.rules x.data.toList by rw [b3.o,if_neg hx0]);clear hx0
    rcases b9 with rfl | rfl | rfl | rfl
    ·have a5:=zjy (show zct s (k:Int) x.data.toList=zdd s.rules x.data.toList from HE.o)
     go_enter func86,ntmps86
     go_wp2_with fail
     refine HK.o.mono ?_;rintro e w1 ⟨rfl,a0⟩;have a2:=zjy (xbt a0);have a1:=zjy (xbn a0);clear a0 HK;have z0:=zaa a1.o;obtain ⟨p0,p1,p2,p3⟩:=zbp a1.o;have c1:w1.cell? ⟨b,off+k*2+1,none⟩=some (.int .i64 1):=(a2.o.cell (p:=⟨b,off+k*2+1,none⟩) hb).trans C1.o;go_wp2_with fail
     refine (rnorm_any zau vt vn vs s.rules x _ (HS.o.2.below a2.o) hx).mono ?_;rw [<- a5.o];obtain ⟨⟨pl,pe⟩,hpp⟩:∃ p,zct s (k:Int) x.data.toList=p:=⟨_,rfl⟩;rw [hpp];have b4:=zjy hpp;unfold zdx;rintro e w3 ⟨rfl,a6⟩;have a8:=xhh a2 a6;clear a6 hpp HE a5 p0 p1 p2 p3 c1;go_wp2_with fail
     go_ret2;exact ⟨HF.o _ b4.o,a8.o⟩
    ·have a5:=zjy (show zct s (k:Int) x.data.toList=dayN x.data.toList from HE.o)
     rcases parse_is x with ⟨da,db,dc,hv,hp,hd⟩ | ⟨hp,hd⟩
     ·have HV:=zjy hv;have HP:=zjy hp
      have b8:=zjy (a5.o.trans hd);clear hv hp hd HE a5;go_enter func86,ntmps86
      go_wp2_with fail
      refine HK.o.mono ?_;rintro e w1 ⟨rfl,a0⟩;have a2:=zjy (xbt a0);have a1:=zjy (xbn a0);clear a0 HK;have z0:=zaa a1.o;obtain ⟨p0,p1,p2,p3⟩:=zbp a1.o;have c1:w1.cell? ⟨b,off+k*2+1,none⟩=some (.int .i64 2):=(a2.o.cell (p:=⟨b,off+k*2+1,none⟩) hb).trans C1.o;go_wp2_with fail
      refine (rparse_any x _).mono ?_;rw [HP.o];rintro e w2 ⟨rfl,b2⟩;have b0:=xhh a2 b2;clear b2 p0 p1 p2 p3 c1;go_wp2_with fail
      refine (rformat_yes da db dc _ HV.o).mono ?_;rintro e w3 ⟨rfl,a6⟩;have a8:=zjy ((b0.o.alloc b0.o.size (.cells #[.int .i64 da,.int .i64 db,.int .i64 dc] 141)).trans (a6.mono (by have:=b0.o.size;simp;omega)));clear a6;go_wp2_with fail
      go_ret2;exact ⟨HF.o _ b8.o,a8.o⟩
     ·have HP:=zjy hp
      have b8:=zjy (a5.o.trans hd);clear hp hd HE a5;go_enter func86,ntmps86
      go_wp2_with fail
      refine HK.o.mono ?_;rintro e w1 ⟨rfl,a0⟩;have a2:=zjy (xbt a0);have a1:=zjy (xbn a0);clear a0 HK;have z0:=zaa a1.o;obtain ⟨p0,p1,p2,p3⟩:=zbp a1.o;have c1:w1.cell? ⟨b,off+k*2+1,none⟩=some (.int .i64 2):=(a2.o.cell (p:=⟨b,off+k*2+1,none⟩) hb).trans C1.o;go_wp2_with fail
      refine (rparse_any x _).mono ?_;rw [HP.o];rintro e w2 ⟨rfl,b2⟩;have b0:=xhh a2 b2;clear b2 p0 p1 p2 p3 c1;go_wp2_with fail
      go_ret2;exact ⟨HF.o _ b8.o,b0.o.alloc b0.o.size _⟩
    ·have a5:=zjy (show zct s (k:Int) x.data.toList=zd6 x.data.toList from HE.o)
     go_enter func86,ntmps86
     go_wp2_with fail
     refine HK.o.mono ?_;rintro e w1 ⟨rfl,a0⟩;have a2:=zjy (xbt a0);have a1:=zjy (xbn a0);clear a0 HK;have z0:=zaa a1.o;obtain ⟨p0,p1,p2,p3⟩:=zbp a1.o;have c1:w1.cell? ⟨b,off+k*2+1,none⟩=some (.int .i64 3):=(a2.o.cell (p:=⟨b,off+k*2+1,none⟩) hb).trans C1.o;go_wp2_with fail
     refine (rcode_any x _ hx).mono ?_;rw [<- a5.o];obtain ⟨⟨pl,pe⟩,hpp⟩:∃ p,zct s (k:Int) x.data.toList=p:=⟨_,rfl⟩;rw [hpp];have b4:=zjy hpp;unfold zdx;rintro e w3 ⟨rfl,a6⟩;have a8:=xhh a2 a6;clear a6 hpp HE a5 p0 p1 p2 p3 c1;go_wp2_with fail
     go_ret2;exact ⟨HF.o _ b4.o,a8.o⟩
    ·have a5:=zjy (show zct s (k:Int) x.data.toList=zde s.rules x.data.toList from HE.o)
     go_enter func86,ntmps86
     go_wp2_with fail
     refine HK.o.mono ?_;rintro e w1 ⟨rfl,a0⟩;have a2:=zjy (xbt a0);have a1:=zjy (xbn a0);clear a0 HK;have z0:=zaa a1.o;obtain ⟨p0,p1,p2,p3⟩:=zbp a1.o;have c1:w1.cell? ⟨b,off+k*2+1,none⟩=some (.int .i64 4):=(a2.o.cell (p:=⟨b,off+k*2+1,none⟩) hb).trans C1.o;go_wp2_with fail
     refine (raddr_any zau vt vn vs s.rules x _ (HS.o.2.below a2.o) hx).mono ?_;rw [<- a5.o];obtain ⟨⟨pl,pe⟩,hpp⟩:∃ p,zct s (k:Int) x.data.toList=p:=⟨_,rfl⟩;rw [hpp];have b4:=zjy hpp;unfold zdx;rintro e w3 ⟨rfl,a6⟩;have a8:=xhh a2 a6;clear a6 hpp HE a5 p0 p1 p2 p3 c1;go_wp2_with fail
     go_ret2;exact ⟨HF.o _ b4.o,a8.o⟩
  ·rw [if_neg hr] at a4
   have HE:=zjy (show zct s f x.data.toList=([],2) by rw [a3,a4];rfl);clear a3 a9 a4;by_cases r1:0<=f
   ·have t1:decide (f<0)=false:=by simp;omega
    have t2:decide ((s.fields.length:Int)<=f)=true:=by simp;omega
    go_enter func86,ntmps86
    go_wp2_with fail
    refine HK.o.mono ?_;rintro e w1 ⟨rfl,a0⟩;have a2:=zjy (xbt a0);have a1:=zjy (xbn a0);clear a0 HK;have z0:=zaa a1.o;obtain ⟨p0,p1,p2,p3⟩:=zbp a1.o;go_wp2_with fail
    go_ret2;exact ⟨HF.o _ HE.o,a2.o⟩
   ·have t1:decide (f<0)=true:=by simp;omega
    go_enter func86,ntmps86
    go_wp2_with fail
    refine HK.o.mono ?_;rintro e w1 ⟨rfl,a0⟩;have a2:=zjy (xbt a0);have a1:=zjy (xbn a0);clear a0 HK;have z0:=zaa a1.o;obtain ⟨p0,p1,p2,p3⟩:=zbp a1.o;go_wp2_with fail
    go_ret2;exact ⟨HF.o _ HE.o,a2.o⟩
 ·rw [if_neg he] at a4
  have HE:=zjy (show zct s f x.data.toList=([],c) by rw [a3,a4];dsimp only;rw [if_neg he]);have he1:(c != 0)=true:=by simpa using he
  clear a3 a9 a4 b5 he;go_enter func86,ntmps86
  go_wp2_with fail
  refine HK.o.mono ?_;rintro e w1 ⟨rfl,a0⟩;have a2:=zjy (xbt a0);have a1:=zjy (xbn a0);clear a0 HK;have z0:=zaa a1.o;obtain ⟨p0,p1,p2,p3⟩:=zbp a1.o;go_wp2_with fail
  go_ret2;exact ⟨HF.o _ HE.o,a2.o⟩
end
section
open Go.RowKit Cal
attribute [local go_sem] zag zaj
theorem rsnormal_any (S:Nat->Prop) (vf vt vn vs:Value) (s:SchemaL) (f:Int) (x:ByteArray) (w:World) (h:SchemaAt w S vf vt vn vs s) (hx:x.size<=9223372036854775000) :
  Calls prog 115 #[.agg #[vf,vt,vn,vs],.int .i64 f,.string x] w fun e w'=>e = .returned (.bool (zat s f x.data.toList))/\Below w.heap.size w w':=by
 have HS:=zjy h.any;have HL:=zjy (Lib.toList_data x);obtain ⟨b5,c3⟩:=h;obtain ⟨af,cf,rfl⟩:=b5.slice;have c4:=zjy b5.any;have b0:∀ p,zat s f x.data.toList=p->Ending.returned (.bool p) = .returned (.bool (zat s f x.data.toList)):=fun p h=>by rw [h]
 have HF:=zjy b0;clear b5 c3 b0;have a3:zat s f x.data.toList=if (zbq s f).2=0 then (if x.data.toList=[] then true else ownK (zbq s f).1 s.rules x.data.toList) else false:=rfl
 have a9:=zei (s:=s) (f:=f);have a4:zbq s f=if za1 s=0 then (if 0<=f/\f<s.fields.length then ((s.fields.getD f.toNat default).2,0) else (0,2)) else (0,za1 s):=rfl
 have K:=zeb zau (.slice af s.fields.length cf) vt vn vs s (w.alloc (.cells #[.slice af s.fields.length cf,vt,vn,vs] 33)) (HS.o.below ((Below.refl _ _).alloc xnl _));have b4:=fun h=>(zc3 (s:=s) h).1
 obtain ⟨c,hc⟩:=xex (za1 s);rw [hc] at K a4 b4;have HK:=zjy K;clear K;have b9:=zjy (trivial:True);by_cases he:c=0
 ·subst he
  have c2:=(b4 rfl).2;clear b4;rw [if_pos rfl] at a4;by_cases hr:0<=f/\f<s.fields.length
  ·rw [if_pos hr] at a4
   obtain ⟨r1,r2⟩:=hr;obtain ⟨k,rfl⟩:=Int.eq_ofNat_of_zero_le r1;rw [Int.toNat_natCast] at a4;have hk:k<s.fields.length:=by omega
   obtain ⟨b,off,rfl,_,hb,a7⟩:=zco c4.o (by omega);obtain ⟨y,hy⟩:=xex (s.fields.getD k default);have b6:=a7 k hk;rw [hy] at b6 a4;obtain ⟨nm,kd⟩:=y;have C1:=zjy (show w.cell? ⟨b,off+k*2+1,none⟩=some (.int .i64 kd) from b6 1 _ rfl);rw [a4] at a3 a9;dsimp only at a3 a9;have b7:=a9 rfl;rw [if_pos rfl] at a3;have b1:=zjy a3;have t1:decide ((k:Int)<0)=false:=by simp
   have t2:decide ((s.fields.length:Int)<=k)=false:=by simp;omega
   have t3:(k:Int)<(s.fields.length:Int):=by omega
   clear b6 a7 a4 a9 a3 hy r1 r2;by_cases hx0:x.data.toList=[]
   ·have e1:x.toList=[]:=by rw [HL.o,hx0]
    have HE:=zjy (show zat s (k:Int) x.data.toList=true by rw [b1.o,if_pos hx0]);clear hx0 b7;go_enter func115,ntmps115
    go_wp2_with fail
    refine HK.o.mono ?_;rintro e w1 ⟨rfl,a0⟩;have a2:=zjy (xbt a0);have a1:=zjy (xbn a0);clear a0 HK;have z0:=zaa a1.o;obtain ⟨p0,p1,p2,p3⟩:=zbp a1.o;go_wp2_with fail
    go_ret;exact ⟨HF.o _ HE.o,a2.o⟩
   ·have e1:(x.toList == [])=false:=by rw [HL.o];simpa using hx0
    have e2:x.toList.isEmpty=false:=by rw [HL.o];simpa using hx0
    have HE:=zjy (show zat s (k:Int) x.data.toList=ownK kd s.rules x.data.toList by rw [b1.o,if_neg hx0]);clear hx0
    rcases b7 with rfl | rfl | rfl | rfl
    ·have a6:=zjy (show zat s (k:Int) x.data.toList=zep (zdd s.rules x.data.toList) x.data.toList from HE.o)
     go_enter func115,ntmps115
     go_wp2_with fail
     refine HK.o.mono ?_;rintro e w1 ⟨rfl,a0⟩;have a2:=zjy (xbt a0);have a1:=zjy (xbn a0);clear a0 HK;have z0:=zaa a1.o;obtain ⟨p0,p1,p2,p3⟩:=zbp a1.o;have c1:w1.cell? ⟨b,off+k*2+1,none⟩=some (.int .i64 1):=(a2.o.cell (p:=⟨b,off+k*2+1,none⟩) hb).trans C1.o;go_wp2_with fail
     refine (rnormal_any zau vt vn vs s.rules x _ (HS.o.2.below a2.o) hx).mono ?_;rw [<- a6.o];obtain ⟨pb,a5⟩:=xex (zat s (k:Int) x.data.toList);rw [a5];have b2:=zjy a5;rintro e w3 ⟨rfl,a8⟩;have b3:=xhh a2 a8;clear a8 a5 HE a6 p0 p1 p2 p3 c1;go_wp2_with fail
     go_ret;exact ⟨HF.o _ b2.o,b3.o⟩
    ·have a6:=zjy (show zat s (k:Int) x.data.toList=readB x.data.toList from HE.o)
     obtain ⟨da,db,dc,hr⟩:=read_is x;have HR:=zjy hr;clear hr HE;go_enter func115,ntmps115
     go_wp2_with fail
     refine HK.o.mono ?_;rintro e w1 ⟨rfl,a0⟩;have a2:=zjy (xbt a0);have a1:=zjy (xbn a0);clear a0 HK;have z0:=zaa a1.o;obtain ⟨p0,p1,p2,p3⟩:=zbp a1.o;have c1:w1.cell? ⟨b,off+k*2+1,none⟩=some (.int .i64 2):=(a2.o.cell (p:=⟨b,off+k*2+1,none⟩) hb).trans C1.o;go_wp2_with fail
     refine (rread_any x _).mono ?_;rw [HR.o];obtain ⟨v,hv⟩:=xex (readB x.data.toList);rw [hv];have HV:=zjy hv;clear hv HR;rintro e w2 ⟨rfl,b8⟩;have c0:=xhh a2 b8;clear b8 p0 p1 p2 p3 c1;cases v
     all_goals
      simp only [cd_false,cd_true];go_wp2_with fail
      go_ret;exact ⟨HF.o _ (by rw [a6.o,HV.o];try rfl),c0.o.alloc c0.o.size _⟩
    ·have a6:=zjy (show zat s (k:Int) x.data.toList=zep (zd6 x.data.toList) x.data.toList from HE.o)
     go_enter func115,ntmps115
     go_wp2_with fail
     refine HK.o.mono ?_;rintro e w1 ⟨rfl,a0⟩;have a2:=zjy (xbt a0);have a1:=zjy (xbn a0);clear a0 HK;have z0:=zaa a1.o;obtain ⟨p0,p1,p2,p3⟩:=zbp a1.o;have c1:w1.cell? ⟨b,off+k*2+1,none⟩=some (.int .i64 3):=(a2.o.cell (p:=⟨b,off+k*2+1,none⟩) hb).trans C1.o;go_wp2_with fail
     refine (rnormed_any x _ hx).mono ?_;rw [<- a6.o];obtain ⟨pb,a5⟩:=xex (zat s (k:Int) x.data.toList);rw [a5];have b2:=zjy a5;rintro e w3 ⟨rfl,a8⟩;have b3:=xhh a2 a8;clear a8 a5 HE a6 p0 p1 p2 p3 c1;go_wp2_with fail
     go_ret;exact ⟨HF.o _ b2.o,b3.o⟩
    ·have a6:=zjy (show zat s (k:Int) x.data.toList=zep (zde s.rules x.data.toList) x.data.toList from HE.o)
     go_enter func115,ntmps115
     go_wp2_with fail
     refine HK.o.mono ?_;rintro e w1 ⟨rfl,a0⟩;have a2:=zjy (xbt a0);have a1:=zjy (xbn a0);clear a0 HK;have z0:=zaa a1.o;obtain ⟨p0,p1,p2,p3⟩:=zbp a1.o;have c1:w1.cell? ⟨b,off+k*2+1,none⟩=some (.int .i64 4):=(a2.o.cell (p:=⟨b,off+k*2+1,none⟩) hb).trans C1.o;go_wp2_with fail
     refine (ranormal_any zau vt vn vs s.rules x _ (HS.o.2.below a2.o) hx).mono ?_;rw [<- a6.o];obtain ⟨pb,a5⟩:=xex (zat s (k:Int) x.data.toList);rw [a5];have b2:=zjy a5;rintro e w3 ⟨rfl,a8⟩;have b3:=xhh a2 a8;clear a8 a5 HE a6 p0 p1 p2 p3 c1;go_wp2_with fail
     go_ret;exact ⟨HF.o _ b2.o,b3.o⟩
  ·rw [if_neg hr] at a4
   have HE:=zjy (show zat s f x.data.toList=false by rw [a3,a4];rfl);clear a3 a9 a4;by_cases r1:0<=f
   ·have t1:decide (f<0)=false:=by simp;omega
    have t2:decide ((s.fields.length:Int)<=f)=true:=by simp;omega
    go_enter func115,ntmps115
    go_wp2_with fail
    refine HK.o.mono ?_;rintro e w1 ⟨rfl,a0⟩;have a2:=zjy (xbt a0);have a1:=zjy (xbn a0);clear a0 HK;have z0:=zaa a1.o;obtain ⟨p0,p1,p2,p3⟩:=zbp a1.o;go_wp2_with fail
    go_ret;exact ⟨HF.o _ HE.o,a2.o⟩
   ·have t1:decide (f<0)=true:=by simp;omega
    go_enter func115,ntmps115
    go_wp2_with fail
    refine HK.o.mono ?_;rintro e w1 ⟨rfl,a0⟩;have a2:=zjy (xbt a0);have a1:=zjy (xbn a0);clear a0 HK;have z0:=zaa a1.o;obtain ⟨p0,p1,p2,p3⟩:=zbp a1.o;go_wp2_with fail
    go_ret;exact ⟨HF.o _ HE.o,a2.o⟩
 ·rw [if_neg he] at a4
  have HE:=zjy (show zat s f x.data.toList=false by rw [a3,a4];dsimp only;rw [if_neg he]);have he1:(c != 0)=true:=by simpa using he
  clear a3 a9 a4 b4 he;go_enter func115,ntmps115
  go_wp2_with fail
  refine HK.o.mono ?_;rintro e w1 ⟨rfl,a0⟩;have a2:=zjy (xbt a0);have a1:=zjy (xbn a0);clear a0 HK;have z0:=zaa a1.o;obtain ⟨p0,p1,p2,p3⟩:=zbp a1.o;go_wp2_with fail
  go_ret;exact ⟨HF.o _ HE.o,a2.o⟩
end
section
open Go.RowKit
attribute [local go_sem] zag zaj za6
def kindsD:List Int:=[1,1,2,4,3]
theorem kindsD_bd (k:Nat) (hk:k<5):1<=kindsD.getD k 0/\kindsD.getD k 0<=4:=by
 have:∀ j:Fin 5,1<=kindsD.getD j 0/\kindsD.getD j 0<=4:=by decide
 exact this ⟨k,hk⟩
theorem kinds_cell {w:World} {b:Nat} (h:w.heap[b]?=some (.cells (kindsD.map (Value.int .i64)).toArray 3 (0,0))) (k:Nat) (hk:k<5):w.cell? ⟨b,k,none⟩=some (.int .i64 (kindsD.getD k 0)):=by
 rw [cell_of_row _ _ _ _ _ _ h,List.getElem?_toArray,List.getElem?_map];have:k<kindsD.length:=hk;rw [List.getD,List.getElem?_eq_getElem this];rfl
theorem schema_deal (D:Nat) (w:World) (h:DeckAt w D) :
  Calls prog 9 #[.pointer (some ⟨D,0,none⟩)] w (SchemaPost D w):=by
 have zD:=h.lt;have M0:=zjy (Moved.start h);clear h;go_enter func9,ntmps9
 go_wp2_with fail
 refine (rules_deal D _ (M0.o.alloc _).deck).mono ?_;rintro e w1 ⟨vt,vn,vs,r,rfl,hr,hd,mv⟩;obtain ⟨a1,ct,rfl⟩:=hr.1.slice;obtain ⟨an,cn,rfl⟩:=hr.2.1.slice;obtain ⟨a2,cs,rfl⟩:=hr.2.2.slice;have zw:w.heap.size<w1.heap.size:=by have:=mv.size;simp at this;omega
 have X1:=zjy (show w1.heap[w.heap.size]?=some (.cells nil4 33 (0,0)) from mv.blk (by omega) (zac rfl));have M1:=zjy ((M0.o.alloc _).trans mv);have HR:=zjy hr;have e1:=zjy hd;clear hr hd mv;go_wp2_with fail
 have K0:=zjy (show SMid D w w1.heap.size (.slice a1 r.titles.length ct) (.slice an r.nicks.length cn) (.slice a2 r.streets.length cs) r (.slice none 0 0) [] ((w1.alloc (.cells #[.slice none 0 0,.slice a1 r.titles.length ct,.slice an r.nicks.length cn,.slice a2 r.streets.length cs] 33)).alloc (.cells (namesD.flatMap za8).toArray 9)) from
  ⟨zaf (zaf X1.o),zaf (zac rfl),zac (by simp),⟨rfl,.inl ⟨rfl,rfl⟩⟩,by
   have hb:Below w1.heap.size w1 ((w1.alloc (.cells #[.slice none 0 0,.slice a1 r.titles.length ct,.slice an r.nicks.length cn,.slice a2 r.streets.length cs] 33)).alloc (.cells (namesD.flatMap za8).toArray 9)):=((Below.refl _ _).alloc xnl _).alloc (by simp) _;have b1:∀ b,b<w1.heap.size->(w.alloc (.cells nil4 33)).heap.size<=b->_/\(w.heap.size<b/\b<w1.heap.size):=fun b h1 h2=>⟨hb.block b h1,by simp at h2;omega,h1⟩
   exact ⟨HR.o.1.move hb.size b1,HR.o.2.1.move hb.size b1,HR.o.2.2.move hb.size b1⟩,FieldsD.nil,(M1.o.alloc _).alloc _,zw⟩)
 refine (zb5 D _ 4 K0.o.moved.deck (by omega) (by omega)).mono ?_;rintro e w2 ⟨q,rfl,q0,q1,mv⟩;obtain ⟨q,rfl⟩:=Int.eq_ofNat_of_zero_le q0;have K1:=zjy (K0.o.gone zD mv);clear mv K0 X1 M1 HR M0;go_wp2_with fail
 go_loopw [6] (fun i wr=>∃ (k:Nat) (F:List F2) (vf:Value),i = .int .i64 k/\k<=1+q/\F.length=k/\SMid D w w1.heap.size (.slice a1 r.titles.length ct) (.slice an r.nicks.length cn) (.slice a2 r.streets.length cs) r vf F wr) (fun i _=>1+q - (intOf i).toNat)
 case atStart=>exact ⟨0,[],_,rfl,by omega,rfl,K1.o⟩
 case round =>
  obtain ⟨k,F,vf,rfl,hk,hF,hm⟩:=hrel;have HF:=zjy hF;have KM:=zjy hm;clear hm hF K1;by_cases hlt:k<1+q
  ·have hq:decide ((k:Int)<1+q)=true:=by simp;omega
   have hix:(k:Int)<5:=by omega
   have hc:(wr.alloc (.cells #[.int .i64 1,.int .i64 1,.int .i64 2,.int .i64 4,.int .i64 3] 3)).cell? ⟨wr.heap.size,k,none⟩=_:=kinds_cell (w:=wr.alloc (.cells (kindsD.map (Value.int .i64)).toArray 3)) (b:=wr.heap.size) (zac rfl) k (by omega);obtain ⟨b3,b2⟩:=kindsD_bd k (by omega);obtain ⟨kd,c6⟩:=xex (kindsD.getD k 0);rw [c6] at hc b3 b2;clear c6;go_wp2_with fail
   refine (zfj D _ 4 (KM.o.moved.alloc _).deck (by omega) (by omega)).mono ?_;rintro e w3 ⟨u,rfl,mv⟩;have KN:=zjy (KM.o.gone zD (((Moved.start KM.o.moved.deck).alloc _).trans mv));clear hc mv;go_upto_if 25 with (fail)
   go_cut [7] (fun s7 wx=>∃ kd:Int,s7 = .int .i64 kd/\1<=kd/\kd<=4/\SMid D w w1.heap.size (.slice a1 r.titles.length ct) (.slice an r.nicks.length cn) (.slice a2 r.streets.length cs) r vf F wx)
   case first =>
    cases u
    ·go_wp2_with fail
     go_meet;exact ⟨kd,rfl,b3,b2,KN.o⟩
    ·go_wp2_with fail
     refine (zb5 D _ 4 KN.o.moved.deck (by omega) (by omega)).mono ?_;rintro e w4 ⟨p,rfl,p0,p1,mv⟩;have KO:=zjy (KN.o.gone zD mv);clear mv;go_wp2_with fail
     go_meet;exact ⟨1+p,rfl,by omega,by omega,KO.o⟩
   case rest =>
    obtain ⟨kx,rfl,c9,c8,hm⟩:=hcut;have KX:=zjy hm;clear hm KM KN b3 b2;obtain ⟨av,cv,b0⟩:=zar KX.o.own;rw [HF.o] at b0;subst b0;have cY:=(zbp KX.o.s).1;have cN:=KX.o.n.cell k (by show k<5;omega);have zY:=zaa KX.o.n;have zY0:w1.heap.size<wc.heap.size:=by omega
    obtain ⟨nm,b4⟩:=xex (namesD.getD k []);rw [b4] at cN;have e2:=zjy b4;clear b4;go_wp2_with fail
    have a6:=zfu KX.o.own (((Below.refl _ _).alloc xnl (.cells #[zak nm,.int .i64 kx] 85)).drew)
    have a5:∀ j u,[zak nm,Value.int .i64 kx][j]?=some u->((wc.alloc (.cells #[zak nm,.int .i64 kx] 85)).drew).cell? ((⟨wc.heap.size,0,none⟩:Addr).add j)=some u:=fun j u hu=>by
     rw [zbu,World.cell?_drew,cell_of_row _ _ _ _ _ _ (heap_alloc_new wc _),Nat.zero_add];simpa using hu
    have a7:∀ u∈[zak nm,Value.int .i64 kx],u.oneCell'=true:=by intro u hu;simp at hu;rcases hu with rfl | rfl <;> rfl
    obtain ⟨i0,hi,c5,c4,b9⟩:=info_parts infoF;have c7:=((Below.refl _ wc).alloc xnl (.cells #[zak nm,.int .i64 kx] 85)).drew;have b8:=zjy c7;have a3:=zjy a6;have a8:=zjy a5;have b7:=zjy a7;have HI:=zjy hi;have e0:=zjy c5;have d9:=zjy c4;have d8:=zjy b9;have fY:=(frozen_of_row _ _ _ _ _ KX.o.s:wc.frozen? ⟨w1.heap.size,0,none⟩=false);clear c7 a6 a5 a7 hi c5 c4 b9;rw [HF.o] at a3;go_region_law (((refine step_append_lies _ rfl (.tmp 30) (.tmp 37) 27 (by rfl) (w1.heap.size+2) 85 i0 (.agg #[.string ⟨#[]⟩,.int .i64 0]) 2 24 underlying27 HI.o e0.o d9.o d8.o rfl (by decide) (.slice av k cv) k (F.flatMap encF) (by rfl) a3.o ⟨wc.heap.size,0,none⟩ 1 1 [zak nm,.int .i64 kx] (by rfl) rfl a8.o b7.o (by omega) (by unfold maxLen;omega) (by omega) (by simp;omega) (wc.heap.size+1) (by simp) ?_);intro g cap w5 a4 a9 b6 d4;have d7:=(a9.cell_far ⟨w1.heap.size,0,none⟩ (by simp;omega) (own_far a3.o (by show w1.heap.size<_;omega))).trans ((b8.o.cell (p:=⟨w1.heap.size,0,none⟩) (by show w1.heap.size<_;omega)).trans cY);have d6:=(a9.frozen_far ⟨w1.heap.size,0,none⟩ (by simp;omega) (own_far a3.o (by show w1.heap.size<_;omega))).trans ((b8.o.frozen (p:=⟨w1.heap.size,0,none⟩) (by show w1.heap.size<_;omega)).trans fY)))
    all_goals
     have b5:=KX.o.fields.snoc (by rw [HF.o];omega) c9 c8;rw [HF.o,e2.o] at b5;have a0:=a4;rw [show F.flatMap encF++[zak nm,.int .i64 kx]=F.flatMap encF++encF (nm,kx) from rfl,<- HF.o] at a0;have KS:=zjy (KX.o.step (x:=(nm,kx)) zD b8.o a9 a0 b5);rw [HF.o] at KS;clear b5 a0 a4 a9 b6 d7 d6;go_wp2_with fail
     go_roundw
     case rel=>exact ⟨k+1,F++[(nm,kx)],_,by go_num,by omega,by rw [List.length_append,HF.o];rfl,KS.o⟩
     case measure=>simp [intOf];omega
  ·have hq:decide ((k:Int)<1+q)=false:=by simp;omega
   obtain ⟨av,cv,b0⟩:=zar KM.o.own;subst b0;have HZ:=zjy KM.o.z;have HM:=zjy KM.o.moved;have HR:=zjy KM.o.rules;have HO:=zjy KM.o.own;have e3:=zjy KM.o.fields;obtain ⟨c0,c1,c2,c3⟩:=zbp KM.o.s;obtain ⟨d0,d1,d2,d3⟩:=zbp KM.o.z;have g0:=(frozen_of_row _ _ _ _ _ KM.o.z:wr.frozen? ⟨w.heap.size,0,none⟩=false);have g1:=(frozen_of_row _ _ _ _ _ KM.o.z:wr.frozen? ⟨w.heap.size,1,none⟩=false);have g2:=(frozen_of_row _ _ _ _ _ KM.o.z:wr.frozen? ⟨w.heap.size,2,none⟩=false);have g3:=(frozen_of_row _ _ _ _ _ KM.o.z:wr.frozen? ⟨w.heap.size,3,none⟩=false);have z0:=zaa KM.o.z;have z1:=zaa KM.o.s;clear KM;go_wp2_with fail
   have hz:=(zad (i:=3) (v:=(.slice a2 r.streets.length cs)) (zad (i:=2) (v:=(.slice an r.nicks.length cn)) (zad (i:=1) (v:=(.slice a1 r.titles.length ct)) (zad (i:=0) (v:=(.slice av F.length cv)) HZ.o))));have hm:=((((HM.o.set (a:=⟨w.heap.size,0,none⟩) xnl (.slice av F.length cv)).set (a:=⟨w.heap.size,1,none⟩) xnl (.slice a1 r.titles.length ct)).set (a:=⟨w.heap.size,2,none⟩) xnl (.slice an r.nicks.length cn)).set (a:=⟨w.heap.size,3,none⟩) xnl (.slice a2 r.streets.length cs));have hv:=(((((Vec.owns (k:=2) (enc:=encF) (S:=fun b=>w.heap.size<b) (fun _=>rfl) HO.o (fun b h1 _=>by omega)).set1 (a:=⟨w.heap.size,0,none⟩) (fun b h=>Nat.ne_of_gt h) (.slice av F.length cv)).set1 (a:=⟨w.heap.size,1,none⟩) (fun b h=>Nat.ne_of_gt h) (.slice a1 r.titles.length ct)).set1 (a:=⟨w.heap.size,2,none⟩) (fun b h=>Nat.ne_of_gt h) (.slice an r.nicks.length cn)).set1 (a:=⟨w.heap.size,3,none⟩) (fun b h=>Nat.ne_of_gt h) (.slice a2 r.streets.length cs))
   have ht:=(((((HR.o.1.weaken (S':=fun b=>w.heap.size<b) fun b h=>h.1).set1 (a:=⟨w.heap.size,0,none⟩) (fun b h=>Nat.ne_of_gt h) (.slice av F.length cv)).set1 (a:=⟨w.heap.size,1,none⟩) (fun b h=>Nat.ne_of_gt h) (.slice a1 r.titles.length ct)).set1 (a:=⟨w.heap.size,2,none⟩) (fun b h=>Nat.ne_of_gt h) (.slice an r.nicks.length cn)).set1 (a:=⟨w.heap.size,3,none⟩) (fun b h=>Nat.ne_of_gt h) (.slice a2 r.streets.length cs))
   have hn:=(((((HR.o.2.1.weaken (S':=fun b=>w.heap.size<b) fun b h=>h.1).set1 (a:=⟨w.heap.size,0,none⟩) (fun b h=>Nat.ne_of_gt h) (.slice av F.length cv)).set1 (a:=⟨w.heap.size,1,none⟩) (fun b h=>Nat.ne_of_gt h) (.slice a1 r.titles.length ct)).set1 (a:=⟨w.heap.size,2,none⟩) (fun b h=>Nat.ne_of_gt h) (.slice an r.nicks.length cn)).set1 (a:=⟨w.heap.size,3,none⟩) (fun b h=>Nat.ne_of_gt h) (.slice a2 r.streets.length cs))
   have hs:=(((((HR.o.2.2.weaken (S':=fun b=>w.heap.size<b) fun b h=>h.1).set1 (a:=⟨w.heap.size,0,none⟩) (fun b h=>Nat.ne_of_gt h) (.slice av F.length cv)).set1 (a:=⟨w.heap.size,1,none⟩) (fun b h=>Nat.ne_of_gt h) (.slice a1 r.titles.length ct)).set1 (a:=⟨w.heap.size,2,none⟩) (fun b h=>Nat.ne_of_gt h) (.slice an r.nicks.length cn)).set1 (a:=⟨w.heap.size,3,none⟩) (fun b h=>Nat.ne_of_gt h) (.slice a2 r.streets.length cs))
   have hw:∀ b,w.heap.size<b->w.heap.size<=b:=fun b h=>Nat.le_of_lt h
   have d5:1<=F.length:=by have:=HF.o;omega
   exact za5 rfl rfl hz underlying33 rfl (by kernel_rfl) ⟨_,_,_,_,⟨F,r⟩,rfl,⟨hv.weaken hw,ht.weaken hw,hn.weaken hw,hs.weaken hw⟩,⟨e3.o,d5,e1.o⟩,hm⟩
end
section
open Go.RowKit Cal
attribute [local go_sem] zag zaj za6
def RecVal (w:World) (S:Nat->Prop) (v:Value) (r:RecL):Prop:=∃ s,v = .agg #[.int .i64 r.id,.int .i64 r.ver,s]/\Vec w S 1 za8 s r.vals
def MakePost (p:RecL × Int) (w:World) (e:Ending) (w':World):Prop:=∃ v,e = .returned (.tuple #[v,.int .i64 p.2])/\RecVal w' (fun b=>w.heap.size<=b) v p.1/\Below w.heap.size w w'
theorem makeN_in {s:SchemaL} {id ver:Int} {raws:List (List UInt8)} (h0:za1 s=0) (h1:raws.length=s.fields.length) (h2:zbl id ver=true):makeN s id ver raws=if (zey s 0 [] raws).2=0 then (⟨id,ver,(zey s 0 [] raws).1⟩,0) else (noRec,(zey s 0 [] raws).2):=by
 unfold makeN;rw [if_pos h0,if_pos h1,if_pos h2]
structure MkAt (w:World) (rb:Nat) (vf vt vn vs:Value) (id ver:Int) (v:Value) (C:List (List UInt8)) (wr:World):Prop where
 s:wr.heap[w.heap.size]?=some (.cells #[vf,vt,vn,vs] 33 (0,0))
 z:wr.heap[w.heap.size+1]?=some (.cells #[.int .i64 0,.int .i64 0,.slice none 0 0] 68 (0,0))
 r:wr.heap[rb]?=some (.cells #[.int .i64 id,.int .i64 ver,v] 68 (0,0))
 own:wr.ownsRow (rb+1) 9 1 v C.length (C.flatMap za8)
 b:Below w.heap.size w wr
 lt:w.heap.size+1<rb
 lt2:rb<wr.heap.size
theorem MkAt.below {w:World} {rb:Nat} {vf vt vn vs:Value} {id ver:Int} {v:Value} {C:List (List UInt8)} {wr wx:World} (h:MkAt w rb vf vt vn vs id ver v C wr) (hb:Below wr.heap.size wr wx):MkAt w rb vf vt vn vs id ver v C wx :=
 ⟨zab hb (zaa h.s) h.s,zab hb (zaa h.z) h.z,zab hb (zaa h.r) h.r,zcf h.own hb,h.b.trans (hb.mono h.b.size),h.lt,Nat.lt_of_lt_of_le h.lt2 hb.size⟩
theorem rmake_yes (S T:Nat->Prop) (vf vt vn vs:Value) (s:SchemaL) (id ver:Int) (raws:List (List UInt8)) (rv:Value) (w:World) (h:SchemaAt w S vf vt vn vs s) (hv:Vec w T 1 za8 rv raws) (hc:za1 s=0) (hl:raws.length=s.fields.length) (hn:zbl id ver=true) (hs:∀ x∈raws,x.length<=1000000) :
  Calls prog 61 #[.agg #[vf,vt,vn,vs],.int .i64 id,.int .i64 ver,rv] w (MakePost (makeN s id ver raws) w):=by
 have b5:=makeN_in hc hl hn;obtain ⟨R,hR⟩:=xex (makeN s id ver raws);rw [hR] at b5 ⊢;have c7:=zjy b5;clear b5 hR;obtain ⟨a,cap,rfl⟩:=hv.slice;obtain ⟨af,cf,rfl⟩:=h.1.slice;have h5:raws.length<=5:=by have:=(zc3 hc).1.2;omega
 have hne:((raws.length:Int) != (s.fields.length:Int))=false:=by rw [hl];simp
 have c1:=hn;simp only [zbl,Bool.and_eq_true,decide_eq_true_iff] at c1;obtain ⟨⟨⟨n1,n2⟩,n3⟩,n4⟩:=c1;have e1:decide (id<(1:Int))=false:=by simp;omega
 have e2:decide ((1048576:Int)<id)=false:=by simp;omega
 have e3:decide (ver<(1:Int))=false:=by simp;omega
 have e4:decide ((1048576:Int)<ver)=false:=by simp;omega
 have HC:=zjy hc;have HV:=zjy hv.any;have HS:=zjy h.any;have d8:=zjy hs;clear h hv hc hl hn hs n1 n2 n3 n4;go_enter func61,ntmps61
 go_wp2_with fail
 refine zah (fun W hW=>?_)
 have a6:=xam hW
 have b1:W.heap[w.heap.size]?=some (.cells #[.slice af s.fields.length cf,vt,vn,vs] 33 (0,0)):=by rw [hW];exact zaf (zac rfl)
 have a8:W.heap[w.heap.size+1]?=some (.cells #[.int .i64 0,.int .i64 0,.slice none 0 0] 68 (0,0)):=by rw [hW];exact zac (by simp)
 clear hW;refine (zeb zau _ _ _ _ s _ (HS.o.below a6)).mono ?_;rw [HC.o];rintro e w1 ⟨rfl,hb⟩;have b0:=zab hb (zaa b1) b1;have b9:=zab hb (zaa a8) a8;have d0:=zjy (a6.trans (hb.mono a6.size));have d9:=zjy b0;have c6:=zjy b9;obtain ⟨s0,s1,s2,s3⟩:=zaq b0;clear hb a6 b1 a8 b0 b9;go_wp2_with fail
 refine zal (fun W2 hW2=>?_)
 have c2:MkAt w w1.heap.size (.slice af s.fields.length cf) vt vn vs id ver (.slice none 0 0) [] W2:=by
  rw [hW2];exact ⟨zaf d9.o,zaf c6.o,zac rfl,⟨by simp,.inl ⟨rfl,rfl⟩⟩,d0.o.alloc d0.o.size _,zaa c6.o,by simp⟩
 have c8:=zjy c2;clear hW2 c2 s0 s1 s2 s3;go_loopw [12,13,14] (fun i _ _ wr=>∃ (j:Nat) (v:Value) (C:List (List UInt8)),i = .int .i64 j/\j<=raws.length/\C.length=j/\Hid (zey s j C (raws.drop j)=zey s 0 [] raws)/\MkAt w w1.heap.size (.slice af s.fields.length cf) vt vn vs id ver v C wr) (fun i _ _ _=>raws.length - (intOf i).toNat)
 case atStart=>exact ⟨0,_,[],rfl,by omega,rfl,zjy rfl,c8.o⟩
 case round =>
  obtain ⟨j,vC,C,rfl,hj,c5,HT,hm⟩:=hrel;have HM:=zjy hm;have c9:=zjy c5;clear hm c5 c8;obtain ⟨s0,s1,s2,s3⟩:=zaq HM.o.s;by_cases a4:j<raws.length
  ·have hq:decide ((j:Int)<raws.length)=true:=by simp;omega
   obtain ⟨x,hx⟩:=xex (raws[j]);have hxl:x.length<=1000000:=d8.o x (by rw [<- hx];exact List.getElem_mem _);have hT:=HT.o;rw [List.drop_eq_getElem_cons a4,hx,zey] at hT;obtain ⟨b,off,rfl,hb,hc⟩:=(HV.o.below HM.o.b).get j a4;have c0:=hc 0 _ rfl;rw [Nat.mul_one,Nat.add_zero,hx] at c0;obtain ⟨⟨y,er⟩,hp⟩:∃ p,zct s j x=p:=⟨_,rfl⟩;rw [hp] at hT;dsimp only at hT;have a7:=zjy hT;have e5:=zjy hp;clear hc hT hx HT hp;go_wp2_with fail
   have c3:b<wr.heap.size:=hb;have a2:=zaa HM.o.s;refine wp_region_noPanic ?_
   refine wp_region_held_drew (S:=(fun w'=>w'.cell? ⟨w.heap.size,0,none⟩=some (.slice af s.fields.length cf)/\w'.cell? ⟨w.heap.size,1,none⟩=some vt/\w'.cell? ⟨w.heap.size,2,none⟩=some vn/\w'.cell? ⟨w.heap.size,3,none⟩=some vs/\w'.cell? ⟨b,off+j,none⟩=some (zak x))) (by kernel_rfl) (⟨s0,s1,s2,s3,c0⟩) (fun hHeld=>?_)
   refine tH 0 ?_;refine tH 1 ?_;refine tH 2 ?_;refine tH 3 ?_;refine tH 4 ?_;refine tH 5 ?_
   refine xrH 6 rfl fun K hK=>?_
   go_simp;refine (rvalue_any zau _ vt vn vs s j ⟨x.toArray⟩ _ ((HS.o.below HM.o.b).below (Below.refl _ _).drew) (by rw [zaj];omega)).mono ?_;rw [show (⟨x.toArray⟩:ByteArray).data.toList=x by simp,e5.o];unfold zdx;rintro e w2 ⟨rfl,c4⟩;have b2:=((Below.refl wr.heap.size wr).drew).trans c4;clear c4
   refine hK.out _ _ (⟨(b2.cell (p:=⟨w.heap.size,0,none⟩) a2).trans s0,(b2.cell (p:=⟨w.heap.size,1,none⟩) a2).trans s1,(b2.cell (p:=⟨w.heap.size,2,none⟩) a2).trans s2,(b2.cell (p:=⟨w.heap.size,3,none⟩) a2).trans s3,(b2.cell (p:=⟨b,off+j,none⟩) c3).trans c0⟩) (fun hHeld=>?_)
   clear hK K;refine tH 7 ?_;refine tH 8 ?_;refine tH 9 ?_;refine tH 10 ?_;refine tH 11 ?_;refine wpAnyH_done (by kernel_rfl) ?_ _;refine NoPanic.normal ?_;have a0:=zjy (HM.o.below b2);clear hHeld s0 s1 s2 s3 c0 b2 HM c3 a2 hb;by_cases he:er=0
   ·subst he
    have d7:=zjy (show zey s (j+1) (C++[y]) (raws.drop (j+1))=zey s 0 [] raws by rw [<- a7.o,if_pos rfl]);clear a7;obtain ⟨r0,r1,r2⟩:=zan a0.o.r;have f2:=frozen_of_row _ _ 2 _ _ a0.o.r;have d2:=a0.o.lt2;have b3:∀ u∈(#[zak y]:Array Value).toList,u.oneCell'=true:=by intro u hu;simp at hu;subst hu;rfl
    have a5:w1.heap.size+1<=w2.heap.size:=d2;have a1:=a0.o.own;have b8:=zjy a1;clear a1;have d4:C.length<1099511627776:=by rw [c9.o];omega
    go_wp2_with (at_builtin;refine zay rfl _ _ 28 rfl (w1.heap.size+1) 9 1 16 (.string ⟨#[]⟩) underlying28 zdt rfl (by decide) (by decide) _ _ _ rfl b8.o #[zak y] 1 rfl rfl b3 d4 a5 ?_;intro v2 w8 b4 a9;obtain ⟨d6,d5,rfl⟩:=zar b4;have a3:=(a9 w2 (Below.refl _ _)).block w1.heap.size (Nat.lt_succ_self _) |>.trans a0.o.r;obtain ⟨q0,q1,q2⟩:=zan a3;have g2:=frozen_of_row _ _ 2 _ _ a3;have y8:=zaa a3)
    have b6:=zjy (a9 w2 (Below.refl _ _));have e6:=zjy b4;have e0:=zjy a3;clear a9 b4 a3;have a4:=a0.o.lt;go_roundw
    case rel =>
     refine ⟨j+1,.slice d6 (C.length+1) d5,C++[y],by go_num,by omega,by rw [List.length_append,c9.o];rfl,d7,?_⟩;refine ⟨zam ((b6.o.block w.heap.size (by omega)).trans a0.o.s) (by show w.heap.size≠w1.heap.size;omega),zam ((b6.o.block (w.heap.size+1) (by omega)).trans a0.o.z) (by show w.heap.size+1≠w1.heap.size;omega),zad (i:=2) e0.o,?_,?_,a4,by simpa [World.setCell] using y8⟩
     ·rw [List.length_append,List.flatMap_append]
      exact own_same e6.o fun g h1 h2=>heap_setCell_other _ _ _ _ (by show g≠w1.heap.size;omega)
     ·exact (a0.o.b.trans (b6.o.mono (by omega))).setCell (p:=⟨w1.heap.size,2,none⟩) (by show w.heap.size<=w1.heap.size;omega) _
    case measure=>simp [intOf];omega
   ·have d3:(er != 0)=true:=by simpa using he
    have hR:R=(noRec,er):=by rw [c7.o,<- a7.o,if_neg he,if_neg he]
    have b7:=zjy hR;obtain ⟨z0,z1,z2⟩:=zan a0.o.z;have f0:=frozen_of_row _ _ 0 _ _ a0.o.z;have f1:=frozen_of_row _ _ 1 _ _ a0.o.z;have f2:=frozen_of_row _ _ 2 _ _ a0.o.z;have yz:=zaa a0.o.z;clear hR he a7;go_wp2_with fail
    rw [b7.o]
    exact zai rfl rfl (zad (i:=2) (v:=.slice none 0 0) (zad (i:=1) (v:=.int .i64 0) (zad (i:=0) (v:=.int .i64 0) a0.o.z))) underlying68 rfl (by kernel_rfl)
     ⟨_,rfl,⟨_,rfl,Vec.nil _ _ _ _⟩,((a0.o.b.setCell (p:=⟨w.heap.size+1,0,none⟩) (Nat.le_succ _) _).setCell (p:=⟨w.heap.size+1,1,none⟩) (Nat.le_succ _) _).setCell (p:=⟨w.heap.size+1,2,none⟩) (Nat.le_succ _) _⟩
  ·have hq:decide ((j:Int)<raws.length)=false:=by simp;omega
   obtain rfl:j=raws.length:=by omega
   have hT:=HT.o;rw [List.drop_length,zey] at hT;have hR:R=(⟨id,ver,C⟩,0):=by rw [c7.o,<- hT,if_pos rfl]
   have b7:=zjy hR;have a4:=HM.o.lt;obtain ⟨z0,z1,z2⟩:=zan HM.o.z;obtain ⟨r0,r1,r2⟩:=zan HM.o.r;have f0:=frozen_of_row _ _ 0 _ _ HM.o.z;have f1:=frozen_of_row _ _ 1 _ _ HM.o.z;have f2:=frozen_of_row _ _ 2 _ _ HM.o.z;have yz:=zaa HM.o.z;obtain ⟨aC,cC,d1⟩:=zar HM.o.own;subst d1;clear hR hT HT s0 s1 s2 s3;go_wp2_with fail
   rw [b7.o]
   refine zai rfl rfl (zad (i:=2) (v:=.slice aC C.length cC) (zad (i:=1) (v:=.int .i64 ver) (zad (i:=0) (v:=.int .i64 id) HM.o.z))) underlying68 rfl (by kernel_rfl)
    ⟨_,rfl,⟨_,rfl,?_⟩,((HM.o.b.setCell (p:=⟨w.heap.size+1,0,none⟩) (Nat.le_succ _) _).setCell (p:=⟨w.heap.size+1,1,none⟩) (Nat.le_succ _) _).setCell (p:=⟨w.heap.size+1,2,none⟩) (Nat.le_succ _) _⟩
   have a1:=own_same (w':=((wr.setCell ⟨w.heap.size+1,0,none⟩ (.int .i64 id)).setCell ⟨w.heap.size+1,1,none⟩ (.int .i64 ver)).setCell ⟨w.heap.size+1,2,none⟩ (.slice aC C.length cC)) HM.o.own fun g h1 h2=>((heap_setCell_other _ _ _ _ (by show g≠w.heap.size+1;omega)).trans (heap_setCell_other _ _ _ _ (by show g≠w.heap.size+1;omega))).trans (heap_setCell_other _ _ _ _ (by show g≠w.heap.size+1;omega))
   exact Vec.owns (k:=1) (enc:=za8) (fun _=>rfl) a1 (fun b h1 _=>by show w.heap.size<=b;omega)
end
section
open Go.RowKit Cal
attribute [local go_sem] zag zaj za6
theorem SchemaAt.moved {D:Nat} {w w':World} {S:Nat->Prop} {vf vt vn vs:Value} {s:SchemaL} (h:SchemaAt w S vf vt vn vs s) (hS:∀ b,S b->b≠D) (m:Moved D w w'):SchemaAt w' S vf vt vn vs s :=
 have mv:∀ b,b<w.heap.size->S b->w'.heap[b]?=w.heap[b]?/\S b:=fun b hb hs=>⟨m.grown.block b hb (by have:=hS b hs;simp;omega),hs⟩
 ⟨h.1.move m.size mv,h.2.1.move m.size mv,h.2.2.1.move m.size mv,h.2.2.2.move m.size mv⟩
theorem fields_cell {w:World} {S:Nat->Prop} {a:Option Addr} {n cap:Nat} {F:List F2} (h:Vec w S 2 encF (.slice a n cap) F) (h0:0<F.length):∃ b off,a=some ⟨b,off,none⟩/\S b/\b<w.heap.size/\∀ j,j<F.length->w.cell? ⟨b,off+j*2+1,none⟩=some (.int .i64 (F.getD j default).2):=by
 obtain ⟨b,off,e,hS,hb,hc⟩:=zco h h0;exact ⟨b,off,e,hS,hb,fun j hj=>hc j hj 1 _ rfl⟩
structure Drawn (D:Nat) (w:World) (y:Nat) (S:Nat->Prop) (vf vt vn vs:Value) (s:SchemaL) (b o:Nat) (kf:Int) (wr:World):Prop where
 m:Moved D w wr
 x:wr.heap[y]?=some (.cells #[vf,vt,vn,vs] 33 (0,0))
 s:SchemaAt wr S vf vt vn vs s
 c:wr.cell? ⟨b,o,none⟩=some (.int .i64 kf)
 ne:∀ b,S b->b≠D
 yD:y≠D
 bD:b≠D
end
section
open Go.RowKit Cal
attribute [local go_sem] zag zaj za6
theorem makeA_short (s:SchemaL) (raws:List (List UInt8)):∀ i C,(∀ x∈C,x.length<=64)->∀ x∈(zey s i C raws).1,x.length<=64:=by
 induction raws with
 | nil=>intro i C h;simpa [zey] using h
 | cons y l ih =>
  intro i C h;unfold zey;split
  ·refine ih _ _ fun x hx=>?_
   rcases List.mem_append.1 hx with h1 | h1
   ·exact h x h1
   ·simp at h1;subst h1;exact (valueN_form s i y).1
  ·intro x hx;simp at hx
theorem Vec.far {α:Type} {w:World} {S:Nat->Prop} {k:Nat} {enc:α->List Value} {v:Value} {L:List α} (h:Vec w S k enc v L) {a:Addr} {u:Value} (hn:∀ b,S b->b≠a.block):Vec (w.setCell a u) S k enc v L :=
 h.move (by simp [World.setCell]) fun b _ hs=>⟨heap_setCell_other _ _ _ _ (hn b hs),hs⟩
theorem oneS:∀ x:List UInt8,∀ u∈za8 x,u.oneCell'=true:=by intro x u hu;simp [za8] at hu;subst hu;rfl
theorem rec_made {s:SchemaL} {id ver:Int} {raws:List (List UInt8)} {r:RecL} (h:makeN s id ver raws=(r,0)):r.id=id/\zdq s r=0/\∀ x∈r.vals,x.length<=64:=by
 obtain ⟨h1,h2,h3,h4,h5,_,h7,h8,_⟩:=makeN_ok h;refine ⟨h2,checkN_of h1 (by rw [h2,h3];exact h4) h5 h7,?_⟩;rw [h8];exact makeA_short s raws 0 [] (by simp)
theorem rec_none {s:SchemaL} {id:Int} (h:za1 s=0) (h1:1<=id) (h2:id<=1048576):zdq s ⟨id,1,List.replicate s.fields.length []⟩=0 :=
 checkN_of h (by simp [zbl,h1,h2]) (by simp) (none_norm h)
theorem made_strings (m:Nat):madeCells #[.string ⟨#[]⟩] m=((List.replicate m ([]:List UInt8)).flatMap za8).toArray:=by
 apply Array.ext'
 have:∀ k,(List.replicate k ([]:List UInt8)).flatMap za8=List.replicate k (.string ⟨#[]⟩):=by
  intro k;induction k with
  | zero=>rfl
  | succ k ih=>rw [List.replicate_succ,List.flatMap_cons,ih];rfl
 rw [this];unfold madeCells;rw [Array.toList_map,Array.toList_range]
 refine List.ext_getElem (by simp) fun i h1 h2=>?_
 simp [Nat.mod_one]
def RecordPost (D:Nat) (s:SchemaL) (id:Int) (w:World) (e:Ending) (w':World):Prop:=∃ v r,e = .returned v/\RecVal w' (fun b=>w.heap.size<=b) v r/\r.id=id/\zdq s r=0/\(∀ x∈r.vals,x.length<=64)/\Moved D w w'
theorem record_deal (D:Nat) (S:Nat->Prop) (vf vt vn vs:Value) (s:SchemaL) (id:Int) (w:World) (h:DeckAt w D) (hs:SchemaAt w S vf vt vn vs s) (hS:∀ b,S b->b≠D) (hd:SchemaD s) (h1:1<=id) (h2:id<=1048576) :
  Calls prog 35 #[.pointer (some ⟨D,0,none⟩),.agg #[vf,vt,vn,vs],.int .i64 id] w (RecordPost D s id w):=by
 have zD:=h.lt;have M0:=zjy (Moved.start h);clear h;obtain ⟨af,cf,rfl⟩:=hs.1.slice;have h5:=hd.fields.len;have HS:=zjy hs;have c8:=zjy hd;have a7:=zjy hS;clear hs hd hS;go_enter func35,ntmps35
 go_wp2_with fail
 refine zal (fun W hW=>?_)
 have hm:Moved D w W:=by rw [hW];exact (M0.o.alloc _).alloc _
 have e9:=xam hW
 have e5:W.heap[w.heap.size]?=some (.cells #[.slice af s.fields.length cf,vt,vn,vs] 33 (0,0)):=by rw [hW];exact zaf (zac rfl)
 have e3:W.heap[w.heap.size+1]?=some (.cells #[.int .i64 0,.int .i64 0,.slice none 0 0] 68 (0,0)):=by rw [hW];exact zac (by simp)
 have e2:W.heap.size=w.heap.size+2:=by rw [hW];simp
 clear hW;have HM:=zjy hm;have f5:=zjy e5;have g5:=zjy e3;have d9:=zjy (HS.o.below e9);have b0:=zjy e2;clear hm e5 e3 e9 e2;obtain ⟨n,hn⟩:=xex (s.fields.length);rw [hn] at f5 d9 h5 ⊢;have HN:=zjy hn;clear hn;go_loopw [7,8] (fun v i wr=>∃ (j:Nat) (L:List (List UInt8)),i = .int .i64 j/\j<=n/\L.length=j/\(∀ x∈L,x.length<=64)/\OwnM D 9 1 za8 W v L wr) (fun _ i _=>n - (intOf i).toNat)
 case atStart=>exact ⟨0,[],rfl,by omega,rfl,by simp,⟨by simp,.inl ⟨rfl,rfl⟩⟩,Moved.start HM.o.deck⟩
 case round =>
  obtain ⟨j,L,rfl,hj,hL,e4,ho⟩:=hrel;have HO:=zjy ho;have HL:=zjy hL;have c7:=zjy e4;have c4:=ho.2.blk (k:=w.heap.size) (by omega) f5.o;have a1:=zjy c4;obtain ⟨s0,s1,s2,s3⟩:=zaq c4;have c9:=zaa c4;clear ho hL e4 c4;by_cases hlt:j<n
  ·have hq:decide ((j:Int)<n)=true:=by simp;omega
   have e7:j<s.fields.length:=by rw [HN.o];exact hlt
   obtain ⟨b,off,g4,f3,hb,hc⟩:=fields_cell d9.o.1 (by omega);cases g4;have hbD:=a7.o b f3;have kc:=(World.cell?_of_block (w:=W) (a:=⟨b,off+j*2+1,none⟩) (HO.o.2.grown.block b hb (by simp;omega))).trans (hc j e7);obtain ⟨kf,e6⟩:=xex ((s.fields.getD j default).2);rw [e6] at kc;have hjn:(j:Int)<(n:Int):=by omega
   clear hc e6 e7 f3;go_wp2_with fail
   refine (raw_deal D kf _ HO.o.2.deck).mono ?_;rintro e w1 ⟨x,rfl,hx,mv⟩;have HX:=zjy hx;have g9:=zjy (HO.o.moved (mv.alloc (.cells #[zak x] 9)));have g8:=zjy (show zck (w1.alloc (.cells #[zak x] 9)) 1 (.slice (some ⟨w1.heap.size,0,none⟩) 1 1) [x].length ([x].flatMap za8) from za0 (t:=9) (fr:=(0,0)) (zac rfl) rfl)
   have b6:∀ y∈L++[x],y.length<=64:=by
    intro y hy
    rcases List.mem_append.1 hy with h | h
    ·exact c7.o y h
    ·simp at h;subst h;exact hx
   have d8:=zjy b6;have g3:L.length+[x].length<=1000000000:=by rw [HL.o];simp only [List.length_cons,List.length_nil];omega
   clear hx mv b6;go_wp2_with (at_builtin;refine zel rfl (.tmp 18) (.tmp 27) 28 rfl D 9 (.string ⟨#[]⟩) 1 16 za8 (fun _=>rfl) oneS underlying28 zdt rfl (by decide) (by decide) (wA:=W) (v:=u7) (A:=L) (B:=[x]) rfl g9.o rfl g8.o g3 ?_;intro v4 w4 f9 hk4)
   go_roundw
   case rel=>exact ⟨j+1,L++[x],by go_num,by omega,by rw [List.length_append,HL.o];rfl,d8.o,f9⟩
   case measure=>simp [intOf];omega
  ·have hq:decide ((j:Int)<n)=false:=by simp;omega
   obtain rfl:j=n:=by omega
   have HV:=zjy (Vec.owns (k:=1) (enc:=za8) (S:=fun b=>W.heap.size<=b) (fun _=>rfl) HO.o.1 (fun b hb _=>hb))
   obtain ⟨aL,cL,f8⟩:=zar HO.o.1;subst f8;have d7:=zjy (d9.o.moved a7.o HO.o.2);have a0:w.heap.size≠D:=by omega
   have mD:Moved D wr wr.drew:=(Moved.start HO.o.2.deck).drew;go_wp2_with fail
   go_cut [9,10] (fun s9 s10 wx=>∃ (rb:Nat) (er y:Int) (sv:Value) (r:RecL),s9 = .pointer (some ⟨rb,0,none⟩)/\s10 = .int .i64 er/\wx.heap[rb]?=some (.cells #[.int .i64 r.id,.int .i64 r.ver,sv] 68 (0,0))/\Vec wx (fun b=>w.heap.size+2<=b) 1 za8 sv r.vals/\Hid (makeN s id (1+y) L=(r,er))/\0<=y/\y<3/\Moved D wr wx/\wr.heap.size<=rb)
   case first =>
    refine wp_region_noPanic ?_
    refine zaw (by kernel_rfl) (fun w'=>w'.cell? ⟨w.heap.size,0,none⟩=some (.slice af j cf)/\w'.cell? ⟨w.heap.size,1,none⟩=some vt/\w'.cell? ⟨w.heap.size,2,none⟩=some vn/\w'.cell? ⟨w.heap.size,3,none⟩=some vs) 12 (⟨s0,s1,s2,s3⟩) (fun hHeld=>?_)
    refine tK 0 ?_;refine tK 1 ?_;refine tK 2 ?_;refine tK 5 ?_;refine zbf (rs:=[3,10]) (by kernel_rfl) (by simp) ?_
    refine AllReadyK.cons rfl (fun K hK=>?_) (AllReadyK.cons rfl (fun K hK=>?_) AllReadyK.nil)
    focus
     go_simp;refine (zb5 D _ 3 mD.deck (by omega) (by omega)).mono ?_;rintro e W1 ⟨y,rfl,y0,y1,mv⟩;have m1:=mD.trans mv;clear mv;have f7:IntKind.i64.wrap (1+y)=1+y:=by rw [IntKind.wrap_i64];omega
     refine zbc hK (⟨(zaq (m1.blk (k:=w.heap.size) a0 a1.o)).1,(zaq (m1.blk (k:=w.heap.size) a0 a1.o)).2.1,(zaq (m1.blk (k:=w.heap.size) a0 a1.o)).2.2.1,(zaq (m1.blk (k:=w.heap.size) a0 a1.o)).2.2.2⟩) (fun hHeld=>?_)
     clear hK K;refine tK 4 ?_;refine zbf (rs:=[6,10]) (by kernel_rfl) (by simp) ?_
     refine AllReadyK.cons rfl (fun K hK=>?_) (AllReadyK.cons rfl (fun K hK=>?_) AllReadyK.nil)
     focus
      go_simp;have a5:zbl id (1+y)=true:=by simp [zbl];omega
      obtain ⟨⟨r,er⟩,hR⟩:∃ R,makeN s id (1+y) L=R:=⟨_,rfl⟩;have a4:=rmake_yes S _ (.slice af j cf) vt vn vs s id (1+y) L (.slice aL L.length cL) _ (d7.o.moved a7.o m1) (HV.o.move (S':=fun b=>W.heap.size<=b) m1.size fun b hb hs=>⟨m1.grown.block b hb (by have b7:W.heap.size<=b:=hs;have h3:=b0.o;have h4:=zD;simp;omega),hs⟩) c8.o.check (HL.o.trans HN.o.symm) a5 (fun x hx=>by have:=c7.o x hx;omega)
      rw [hR] at a4;refine a4.mono ?_;rintro e W2 ⟨_,rfl,⟨sv,rfl,a8⟩,hb⟩;have m2:=m1.below hb;have a2:=a8.move (w':=W2) (S':=fun b=>w.heap.size+2<=b) xnl fun b a9 hs=>⟨rfl,by have h1:=m1.size;have h2:=HO.o.2.size;have h3:=b0.o;have b7:=hs;omega⟩
      obtain ⟨c6,c5,b8⟩:=a2.slice;subst b8;have b5:=zjy hR;clear hb a8 a4 hR
      refine zbc hK (⟨(zaq (m2.blk (k:=w.heap.size) a0 a1.o)).1,(zaq (m2.blk (k:=w.heap.size) a0 a1.o)).2.1,(zaq (m2.blk (k:=w.heap.size) a0 a1.o)).2.2.1,(zaq (m2.blk (k:=w.heap.size) a0 a1.o)).2.2.2⟩) (fun hHeld=>?_)
      clear hK K;refine tK 7 ?_;refine tK 8 ?_;refine tK 9 ?_
      refine xrK 10 rfl fun K hK=>?_
      go_simp
      refine zbc hK (⟨(zaq ((m2.alloc _).blk (k:=w.heap.size) a0 a1.o)).1,(zaq ((m2.alloc _).blk (k:=w.heap.size) a0 a1.o)).2.1,(zaq ((m2.alloc _).blk (k:=w.heap.size) a0 a1.o)).2.2.1,(zaq ((m2.alloc _).blk (k:=w.heap.size) a0 a1.o)).2.2.2⟩) (fun hHeld=>?_)
      clear hK K
      refine zbi (fun W3 hW3=>?_)
      have m3:Moved D wr W3:=by rw [hW3];exact m2.alloc (.cells #[.int .i64 0,.int .i64 0,.slice none 0 0] 68)
      have gb:W3.heap[W2.heap.size]?=some (.cells #[.int .i64 0,.int .i64 0,.slice none 0 0] 68 (0,0)):=by rw [hW3];exact zac rfl
      have b2:wr.heap.size<=W2.heap.size:=m2.size;have g6:∀ b,b<W2.heap.size->W3.heap[b]?=W2.heap[b]?:=by rw [hW3];exact fun b hb=>heap_alloc_old _ _ hb
      have a6:w.heap.size≠W2.heap.size:=by have:=c9;omega
      clear hW3 hHeld;have hHeld:W3.cell? ⟨w.heap.size,0,none⟩=some (.slice af j cf)/\W3.cell? ⟨w.heap.size,1,none⟩=some vt/\W3.cell? ⟨w.heap.size,2,none⟩=some vn/\W3.cell? ⟨w.heap.size,3,none⟩=some vs:=⟨(zaq (m3.blk (k:=w.heap.size) a0 a1.o)).1,(zaq (m3.blk (k:=w.heap.size) a0 a1.o)).2.1,(zaq (m3.blk (k:=w.heap.size) a0 a1.o)).2.2.1,(zaq (m3.blk (k:=w.heap.size) a0 a1.o)).2.2.2⟩;have b1:=a2.move (w':=W3) (S':=fun b=>w.heap.size+2<=b/\b≠W2.heap.size) (by have h9:=zaa gb;omega) fun b a9 hs=>⟨g6 b a9,hs,by omega⟩
     rotate_left 1
     focus
      go_simp
      refine zbc hK (⟨(zaq ((m1.alloc _).blk (k:=w.heap.size) a0 a1.o)).1,(zaq ((m1.alloc _).blk (k:=w.heap.size) a0 a1.o)).2.1,(zaq ((m1.alloc _).blk (k:=w.heap.size) a0 a1.o)).2.2.1,(zaq ((m1.alloc _).blk (k:=w.heap.size) a0 a1.o)).2.2.2⟩) (fun hHeld=>?_)
      clear hK K
      refine zbi (fun W2 hW2=>?_)
      have m2:Moved D wr W2:=by rw [hW2];exact m1.alloc (.cells #[.int .i64 0,.int .i64 0,.slice none 0 0] 68)
      have gb:W2.heap[W1.heap.size]?=some (.cells #[.int .i64 0,.int .i64 0,.slice none 0 0] 68 (0,0)):=by rw [hW2];exact zac rfl
      have b2:wr.heap.size<=W1.heap.size:=m1.size;have HX2:∀ b,b<W1.heap.size->W2.heap[b]?=W1.heap[b]?:=by rw [hW2];exact fun b hb=>heap_alloc_old _ _ hb
      have a6:w.heap.size≠W1.heap.size:=by have:=c9;omega
      clear hW2 hHeld;have hHeld:W2.cell? ⟨w.heap.size,0,none⟩=some (.slice af j cf)/\W2.cell? ⟨w.heap.size,1,none⟩=some vt/\W2.cell? ⟨w.heap.size,2,none⟩=some vn/\W2.cell? ⟨w.heap.size,3,none⟩=some vs:=⟨(zaq (m2.blk (k:=w.heap.size) a0 a1.o)).1,(zaq (m2.blk (k:=w.heap.size) a0 a1.o)).2.1,(zaq (m2.blk (k:=w.heap.size) a0 a1.o)).2.2.1,(zaq (m2.blk (k:=w.heap.size) a0 a1.o)).2.2.2⟩
      refine xrK 6 rfl fun K hK=>?_
      go_simp;have d5:W1.heap.size<_:=zaa gb;have a5:zbl id (1+y)=true:=by simp [zbl];omega
      obtain ⟨⟨r,er⟩,hR⟩:∃ R,makeN s id (1+y) L=R:=⟨_,rfl⟩;have a4:=rmake_yes S _ (.slice af j cf) vt vn vs s id (1+y) L (.slice aL L.length cL) _ (d7.o.moved a7.o m2) (HV.o.move (S':=fun b=>W.heap.size<=b) m2.size fun b hb hs=>⟨m2.grown.block b hb (by have b7:W.heap.size<=b:=hs;have h3:=b0.o;have h4:=zD;simp;omega),hs⟩) c8.o.check (HL.o.trans HN.o.symm) a5 (fun x hx=>by have:=c7.o x hx;omega)
      rw [hR] at a4;refine a4.mono ?_;rintro e W3 ⟨_,rfl,⟨sv,rfl,a8⟩,hb⟩;have m3:=m2.below hb;have gb:=zab hb (zaa gb) gb;have a2:=a8.move (w':=W3) (S':=fun b=>w.heap.size+2<=b/\b≠W1.heap.size) xnl fun b a9 hs=>⟨rfl,by have h1:=m2.size;have h2:=HO.o.2.size;have h3:=b0.o;have b7:=hs;exact ⟨by omega,by omega⟩⟩
      obtain ⟨c6,c5,b8⟩:=a2.slice;subst b8;have b5:=zjy hR;clear hb a8 a4 hR
      refine zbc hK (⟨(zaq (m3.blk (k:=w.heap.size) a0 a1.o)).1,(zaq (m3.blk (k:=w.heap.size) a0 a1.o)).2.1,(zaq (m3.blk (k:=w.heap.size) a0 a1.o)).2.2.1,(zaq (m3.blk (k:=w.heap.size) a0 a1.o)).2.2.2⟩) (fun hHeld=>?_)
      clear hK K;refine tK 7 ?_;refine tK 8 ?_;refine tK 9 ?_;have b1:=a2
    rotate_left 2
    focus
     go_simp
     refine zbc hK (⟨(zaq ((mD.alloc _).blk (k:=w.heap.size) a0 a1.o)).1,(zaq ((mD.alloc _).blk (k:=w.heap.size) a0 a1.o)).2.1,(zaq ((mD.alloc _).blk (k:=w.heap.size) a0 a1.o)).2.2.1,(zaq ((mD.alloc _).blk (k:=w.heap.size) a0 a1.o)).2.2.2⟩) (fun hHeld=>?_)
     clear hK K
     refine zbi (fun W1 hW1=>?_)
     have m1:Moved D wr W1:=by rw [hW1];exact mD.alloc (.cells #[.int .i64 0,.int .i64 0,.slice none 0 0] 68)
     have gb:W1.heap[wr.heap.size]?=some (.cells #[.int .i64 0,.int .i64 0,.slice none 0 0] 68 (0,0)):=by rw [hW1];exact zac rfl
     have b2:wr.heap.size<=wr.heap.size:=mD.size;have HX1:∀ b,b<wr.heap.size->W1.heap[b]?=wr.heap[b]?:=by rw [hW1];exact fun b hb=>heap_alloc_old _ _ hb
     have a6:w.heap.size≠wr.heap.size:=by have:=c9;omega
     clear hW1 hHeld;have hHeld:W1.cell? ⟨w.heap.size,0,none⟩=some (.slice af j cf)/\W1.cell? ⟨w.heap.size,1,none⟩=some vt/\W1.cell? ⟨w.heap.size,2,none⟩=some vn/\W1.cell? ⟨w.heap.size,3,none⟩=some vs:=⟨(zaq (m1.blk (k:=w.heap.size) a0 a1.o)).1,(zaq (m1.blk (k:=w.heap.size) a0 a1.o)).2.1,(zaq (m1.blk (k:=w.heap.size) a0 a1.o)).2.2.1,(zaq (m1.blk (k:=w.heap.size) a0 a1.o)).2.2.2⟩
     refine xrK 3 rfl fun K hK=>?_
     go_simp;refine (zb5 D _ 3 m1.deck (by omega) (by omega)).mono ?_;rintro e W2 ⟨y,rfl,y0,y1,mv⟩;have m2:=m1.trans mv;have gb:=mv.blk (by have:=zD;omega) gb;clear mv;have f7:IntKind.i64.wrap (1+y)=1+y:=by rw [IntKind.wrap_i64];omega
     refine zbc hK (⟨(zaq (m2.blk (k:=w.heap.size) a0 a1.o)).1,(zaq (m2.blk (k:=w.heap.size) a0 a1.o)).2.1,(zaq (m2.blk (k:=w.heap.size) a0 a1.o)).2.2.1,(zaq (m2.blk (k:=w.heap.size) a0 a1.o)).2.2.2⟩) (fun hHeld=>?_)
     clear hK K;refine tK 4 ?_
     refine xrK 6 rfl fun K hK=>?_
     go_simp;have d5:wr.heap.size<_:=zaa gb;have a5:zbl id (1+y)=true:=by simp [zbl];omega
     obtain ⟨⟨r,er⟩,hR⟩:∃ R,makeN s id (1+y) L=R:=⟨_,rfl⟩;have a4:=rmake_yes S _ (.slice af j cf) vt vn vs s id (1+y) L (.slice aL L.length cL) _ (d7.o.moved a7.o m2) (HV.o.move (S':=fun b=>W.heap.size<=b) m2.size fun b hb hs=>⟨m2.grown.block b hb (by have b7:W.heap.size<=b:=hs;have h3:=b0.o;have h4:=zD;simp;omega),hs⟩) c8.o.check (HL.o.trans HN.o.symm) a5 (fun x hx=>by have:=c7.o x hx;omega)
     rw [hR] at a4;refine a4.mono ?_;rintro e W3 ⟨_,rfl,⟨sv,rfl,a8⟩,hb⟩;have m3:=m2.below hb;have gb:=zab hb (zaa gb) gb;have a2:=a8.move (w':=W3) (S':=fun b=>w.heap.size+2<=b/\b≠wr.heap.size) xnl fun b a9 hs=>⟨rfl,by have h1:=m2.size;have h2:=HO.o.2.size;have h3:=b0.o;have b7:=hs;exact ⟨by omega,by omega⟩⟩
     obtain ⟨c6,c5,b8⟩:=a2.slice;subst b8;have b5:=zjy hR;clear hb a8 a4 hR
     refine zbc hK (⟨(zaq (m3.blk (k:=w.heap.size) a0 a1.o)).1,(zaq (m3.blk (k:=w.heap.size) a0 a1.o)).2.1,(zaq (m3.blk (k:=w.heap.size) a0 a1.o)).2.2.1,(zaq (m3.blk (k:=w.heap.size) a0 a1.o)).2.2.2⟩) (fun hHeld=>?_)
     clear hK K;refine tK 7 ?_;refine tK 8 ?_;refine tK 9 ?_;have b1:=a2
    all_goals
     obtain ⟨c0,c1,c2⟩:=zan gb;have f0:=frozen_of_row _ _ 0 _ _ gb;have f1:=frozen_of_row _ _ 1 _ _ gb;have f2:=frozen_of_row _ _ 2 _ _ gb;have za:=zaa gb;have c3:=zam (a:=⟨_,2,none⟩) (v:=.slice c6 r.vals.length c5) (zam (a:=⟨_,1,none⟩) (v:=.int .i64 r.ver) (zam (a:=⟨_,0,none⟩) (v:=.int .i64 r.id) (m3.blk (k:=w.heap.size) a0 a1.o) a6) a6) a6
     refine xrK 11 rfl fun K hK=>?_
     go_simp
     refine zbc hK (⟨(zaq c3).1,(zaq c3).2.1,(zaq c3).2.2.1,(zaq c3).2.2.2⟩) (fun hHeld=>?_)
     clear hK K
     refine xrK 12 rfl fun K hK=>?_
     go_simp;refine zav hK (by decide) ?_;clear hK K;refine zas (by kernel_rfl) ?_ _;refine NoPanic.normal ?_;go_wp2_with fail
     go_meet;exact ⟨_,er,y,_,r,rfl,rfl,zad (zad (zad gb)),(((b1.far (fun b hb=>hb.2)).far (fun b hb=>hb.2)).far (fun b hb=>hb.2)).weaken (fun b hb=>hb.1),b5,y0,y1,((m3.set b2 _).set b2 _).set b2 _,b2⟩
   case rest =>
    obtain ⟨rb,er,y,sv,r,rfl,rfl,b4,d1,b5,y0,y1,mw,b2⟩:=hcut;obtain ⟨c6,c5,rfl⟩:=d1.slice;have d2:=mw.blk (k:=w.heap.size) a0 a1.o;have a3:=mw.blk (k:=w.heap.size+1) (by omega) (HO.o.2.blk (k:=w.heap.size+1) (by omega) g5.o);have d4:rb≠w.heap.size+1:=by have h1:=HO.o.2.size;have h2:=b0.o;omega
    have lr:=zaa a3;have lb:=zaa b4;have lz:=zaa d2;have b9:=zjy a3;have f6:=zjy (HM.o.trans (HO.o.2.trans mw));have f4:=zjy d1;have e1:=zjy b4;obtain ⟨z0,z1,z2⟩:=zan a3;have f0:=frozen_of_row _ _ 0 _ _ a3;have f1:=frozen_of_row _ _ 1 _ _ a3;have f2:=frozen_of_row _ _ 2 _ _ a3;obtain ⟨c0,c1,c2⟩:=zan b4;have g0:=frozen_of_row _ _ 0 _ _ b4;have g1:=frozen_of_row _ _ 1 _ _ b4;have g2:=frozen_of_row _ _ 2 _ _ b4;clear s0 s1 s2 s3;obtain ⟨s0,s1,s2,s3⟩:=zaq d2;clear d2 a3 b4 d1 mw mD;by_cases he:er=0
    ·subst he
     have d0:((0:Int) != 0)=false:=rfl;have e0:=zjy (rec_made b5.o);clear g0 g1 g2;go_wp2_with fail
     exact za5 rfl rfl (zad (i:=2) (zad (i:=1) (zad (i:=0) b9.o))) underlying68 rfl (by kernel_rfl)
      ⟨_,r,rfl,⟨_,rfl,(((f4.o.far (fun b hb=>by show b≠w.heap.size+1;have a9:w.heap.size+2<=b:=hb;omega)).far (fun b hb=>by show b≠w.heap.size+1;have a9:w.heap.size+2<=b:=hb;omega)).far (fun b hb=>by show b≠w.heap.size+1;have a9:w.heap.size+2<=b:=hb;omega)).weaken (fun b hb=>by have a9:w.heap.size+2<=b:=hb;show w.heap.size<=b;omega)⟩,e0.o.1,e0.o.2.1,e0.o.2.2,
       ((f6.o.set (a:=⟨w.heap.size+1,0,none⟩) (Nat.le_succ _) _).set (a:=⟨w.heap.size+1,1,none⟩) (Nat.le_succ _) _).set (a:=⟨w.heap.size+1,2,none⟩) (Nat.le_succ _) _⟩
    ·have d0:(er != (0:Int))=true:=by simpa using he
     have a4:=run_make_row' (P:=prog) 28 9 (.string ⟨#[]⟩) 16 underlying28 zdt rfl .i64 .i64 j (by omega) (by omega);rw [made_strings] at a4;clear f4 b5 he;go_upto_region 9 with fail
     refine zal (fun W9 hW9=>?_)
     have d3:w.heap.size<=rb:=by have h1:=HO.o.2.size;have h2:=b0.o;omega
     have d6:W9.heap[rb]?=some (.cells #[.int .i64 id,.int .i64 1,.slice (some ⟨wc.heap.size,0,none⟩) j j] 68 (0,0)):=by rw [hW9];exact zaf (zad (i:=2) (zad (i:=1) (zad (i:=0) e1.o)))
     have e8:W9.heap[wc.heap.size]?=some (.cells ((List.replicate j ([]:List UInt8)).flatMap za8).toArray 9 (0,0)):=by rw [hW9];exact zac (by simp [World.setCell])
     have b3:W9.heap[w.heap.size+1]?=some (.cells #[.int .i64 0,.int .i64 0,.slice none 0 0] 68 (0,0)):=by rw [hW9];exact zaf (zam (zam (zam b9.o d4.symm) d4.symm) d4.symm)
     have m9:Moved D w W9:=by rw [hW9];exact (((f6.o.set (a:=⟨rb,0,none⟩) d3 _).set (a:=⟨rb,1,none⟩) d3 _).set (a:=⟨rb,2,none⟩) d3 _).alloc _
     have h6:=zjy e8;have g7:=zjy b3;have h0:=zjy m9;clear hW9 c0 c1 c2 z0 z1 z2 f0 f1 f2 g0 g1 g2 s0 s1 s2 s3 m9 a4;obtain ⟨z0,z1,z2⟩:=zan b3;have f0:=frozen_of_row _ _ 0 _ _ b3;have f1:=frozen_of_row _ _ 1 _ _ b3;have f2:=frozen_of_row _ _ 2 _ _ b3;obtain ⟨c0,c1,c2⟩:=zan d6;have l1:=zaa b3;have l2:=zaa d6;have h7:=zjy (show zdq s ⟨id,1,List.replicate j []⟩=0 by rw [<- HN.o];exact rec_none c8.o.check h1 h2);clear b3 d6 e8;go_wp2_with fail
     exact za5 rfl rfl (zad (i:=2) (zad (i:=1) (zad (i:=0) g7.o))) underlying68 rfl (by kernel_rfl)
      ⟨_,⟨id,1,List.replicate j []⟩,rfl,⟨_,rfl,(((ze5 (k:=1) (enc:=za8) (L:=List.replicate j ([]:List UInt8)) (S:=fun b=>w.heap.size<=b/\b≠w.heap.size+1) (A:=wc.heap.size) (fun _=>rfl) h6.o ⟨by omega,by omega⟩ j (by simp)).far (fun b hb=>hb.2)).far (fun b hb=>hb.2)).far (fun b hb=>hb.2) |>.weaken (fun b hb=>hb.1)⟩,rfl,h7.o,(by intro x hx;have:=List.eq_of_mem_replicate hx;subst this;simp),
       ((h0.o.set (a:=⟨w.heap.size+1,0,none⟩) (Nat.le_succ _) _).set (a:=⟨w.heap.size+1,1,none⟩) (Nat.le_succ _) _).set (a:=⟨w.heap.size+1,2,none⟩) (Nat.le_succ _) _⟩
end
section
open Go.RowKit
def andW (x y:Int):Int:=bits .and .u64 x y
def zih (A B:List Int):List Int:=List.zipWith andW A B
def andB (a b:BitsL):Option BitsL:=if zap a=true/\zap b=true/\a.len=b.len then some ⟨a.len,zih a.words b.words⟩ else none
def zf3 (a b:BitsL) (w:World) (e:Ending) (w':World):Prop :=
 ∃ v,e = .returned (.tuple #[v,.int .i64 (if (andB a b).isSome=true then 0 else 8)])/\BitsAt w' (fun x=>w.heap.size<=x) v ((andB a b).getD zch)/\Below w.heap.size w w'
theorem andL_len {A B:List Int} (h:A.length=B.length):(zih A B).length=A.length:=by unfold zih;rw [List.length_zipWith,h];simp
theorem andL_get {A B:List Int} (k:Nat) (hA:k<A.length) (hB:k<B.length) (h:k<(zih A B).length):(zih A B)[k]=andW A[k] B[k]:=by simp [zih]
def zid (L:List Int) (k:Nat):List Int:=L.take k++List.replicate (L.length - k) 0
theorem partW_len (L:List Int) (k:Nat):(zid L k).length=L.length:=by unfold zid;simp;omega
theorem partW_set (L:List Int) (k:Nat) (h:k<L.length):(zid L k).set k L[k]=zid L (k+1):=by
 unfold zid;rw [List.set_append_right _ _ (by simp;omega)];have e:L.length - k=(L.length - (k+1))+1:=by omega
 have e2:k - (L.take k).length=0:=by simp;omega
 rw [e,e2,List.replicate_succ,List.set_cons_zero,List.take_succ_eq_append_getElem h,List.append_assoc];rfl
theorem partW_zero (L:List Int):zid L 0=List.replicate L.length 0:=by simp [zid]
theorem partW_all (L:List Int):zid L L.length=L:=by simp [zid]
theorem and1_any (x y:Int) (w:World):Calls prog 150 #[.int .u64 x,.int .u64 y] w fun e w'=>e = .returned (.int .u64 (andW x y))/\w=w':=by
 unfold andW;go_enter func150,ntmps150
 go_wp2_with fail
 go_ret;exact ⟨rfl,rfl⟩
structure BothAt (w:World) (len:Int) (sa sb:Value) (A B:List Int) (gw c8 n:Nat) (W:List Int) (wr:World):Prop where
 ha:wr.heap[w.heap.size]?=some (.cells #[.int .i64 len,sa] 56 (0,0))
 hb:wr.heap[w.heap.size+1]?=some (.cells #[.int .i64 len,sb] 56 (0,0))
 hr:wr.heap[w.heap.size+2]?=some (.cells #[.int .i64 0,.slice none 0 0] 56 (0,0))
 hc:wr.heap[c8]?=some (.cells #[.int .i64 len,.slice (some ⟨gw,0,none⟩) n n] 56 (0,0))
 hw:wr.heap[gw]?=some (.cells (W.flatMap zc7).toArray 39 (0,0))
 wl:W.length=n
 ne:w.heap.size+2<gw/\w.heap.size+2<c8/\gw≠c8
 va:Vec wr (fun x=>x≠gw) 1 zc7 sa A
 vb:Vec wr (fun x=>x≠gw) 1 zc7 sb B
 b:Below w.heap.size w wr
theorem BothAt.set {w:World} {len:Int} {sa sb:Value} {A B:List Int} {gw c8 n:Nat} {W:List Int} {wr:World} (h:BothAt w len sa sb A B gw c8 n W wr) (q:Nat) (x:Int):BothAt w len sa sb A B gw c8 n (W.set q x) (wr.setCell ⟨gw,q,none⟩ (.int .u64 x)):=by
 obtain ⟨n1,n2,n3⟩:=h.ne
 refine ⟨zam h.ha (by show w.heap.size≠gw;omega),zam h.hb (by show w.heap.size+1≠gw;omega),zam h.hr (by show w.heap.size+2≠gw;omega),zam h.hc (Ne.symm n3),?_,by rw [List.length_set];exact h.wl,h.ne,h.va.far fun b hb=>hb,h.vb.far fun b hb=>hb,h.b.setCell (p:=⟨gw,q,none⟩) (by show w.heap.size<=gw;omega) _⟩
 rw [<- word_set];exact zad h.hw
theorem BothAt.below {w:World} {len:Int} {sa sb:Value} {A B:List Int} {gw c8 n:Nat} {W:List Int} {wr wx:World} (h:BothAt w len sa sb A B gw c8 n W wr) (hb:Below wr.heap.size wr wx):BothAt w len sa sb A B gw c8 n W wx :=
 ⟨zab hb (zaa h.ha) h.ha,zab hb (zaa h.hb) h.hb,zab hb (zaa h.hr) h.hr,zab hb (zaa h.hc) h.hc,zab hb (zaa h.hw) h.hw,h.wl,h.ne,h.va.below hb,h.vb.below hb,h.b.trans (hb.mono h.b.size)⟩
theorem both_laid0 {w w2 V:World} {la:Int} {sa sb:Value} {A B:List Int} {gw c8 n:Nat} {Z:List Int} (b3:Below w2.heap.size w2 V) (hb:Below w.heap.size w w2)
  (ha:w2.heap[w.heap.size]?=some (.cells #[.int .i64 la,sa] 56 (0,0))) (hB:w2.heap[w.heap.size+1]?=some (.cells #[.int .i64 la,sb] 56 (0,0))) (hr:w2.heap[w.heap.size+2]?=some (.cells #[.int .i64 0,.slice none 0 0] 56 (0,0)))
  (va:Vec w2 zau 1 zc7 sa A) (vb:Vec w2 zau 1 zc7 sb B) (hg:V.heap[gw]?=some (.cells (Z.flatMap zc7).toArray 39 (0,0))) (hc:V.heap[c8]?=some (.cells #[.int .i64 0,.slice none 0 0] 56 (0,0))) (hl:Z.length=n)
  (z1:w2.heap.size<=gw) (z2:w2.heap.size<=c8) (z3:gw≠c8) (z4:w.heap.size+2<w2.heap.size) :
  BothAt w la sa sb A B gw c8 n Z ((V.setCell ⟨c8,0,none⟩ (.int .i64 la)).setCell ⟨c8,1,none⟩ (.slice (some ⟨gw,0,none⟩) n n)):=by
 have far:∀ {k:Nat} {o:Obj},V.heap[k]?=some o->k≠c8->((V.setCell ⟨c8,0,none⟩ (.int .i64 la)).setCell ⟨c8,1,none⟩ (.slice (some ⟨gw,0,none⟩) n n)).heap[k]?=some o:=fun h hk=>zam (zam h hk) hk
 have vv:∀ {s:Value} {L:List Int},Vec w2 zau 1 zc7 s L->Vec ((V.setCell ⟨c8,0,none⟩ (.int .i64 la)).setCell ⟨c8,1,none⟩ (.slice (some ⟨gw,0,none⟩) n n)) (fun x=>x≠gw) 1 zc7 s L:=fun {s L} h=>by
  have h1:Vec V (fun x=>x<w2.heap.size) 1 zc7 s L:=(h.move (S':=fun x=>x<w2.heap.size) xnl fun b hb _=>⟨rfl,hb⟩).below b3
  have h2:=(h1.far (a:=⟨c8,0,none⟩) (u:=.int .i64 la) fun b (hb:b<w2.heap.size)=>by show b≠c8;omega).far (a:=⟨c8,1,none⟩) (u:=.slice (some ⟨gw,0,none⟩) n n) fun b (hb:b<w2.heap.size)=>by show b≠c8;omega
  exact h2.move xnl fun b _ (hb:b<w2.heap.size)=>⟨rfl,by show b≠gw;omega⟩
 have bl:∀ {k:Nat} {o:Obj},w2.heap[k]?=some o->V.heap[k]?=some o:=fun h=>zab b3 (zaa h) h
 have hl2:=zaa ha;have hl3:=zaa hB;have hl4:=zaa hr;refine ⟨far (bl ha) (by omega),far (bl hB) (by omega),far (bl hr) (by omega),?_,far hg z3,hl,⟨by omega,by omega,z3⟩,vv va,vv vb,((hb.trans (b3.mono hb.size)).setCell (p:=⟨c8,0,none⟩) (by show w.heap.size<=c8;omega) _).setCell (p:=⟨c8,1,none⟩) (by show w.heap.size<=c8;omega) _⟩;exact zad (i:=1) (v:=.slice (some ⟨gw,0,none⟩) n n) (zad (i:=0) (v:=.int .i64 la) hc)
theorem BothAt.drew {w:World} {len:Int} {sa sb:Value} {A B:List Int} {gw c8 n:Nat} {W:List Int} {wr:World} (h:BothAt w len sa sb A B gw c8 n W wr):BothAt w len sa sb A B gw c8 n W wr.drew:=h.below (Below.refl _ _).drew
theorem zgw {a b:BitsL} (h:¬ (zap a=true/\zap b=true/\a.len=b.len)):andB a b=none:=by unfold andB;rw [if_neg h]
theorem andB_some {a b:BitsL} (h:zap a=true/\zap b=true/\a.len=b.len):andB a b=some ⟨a.len,zih a.words b.words⟩:=by unfold andB;rw [if_pos h]
theorem both_any (S T:Nat->Prop) (u v:Value) (a b:BitsL) (w:World) (hu:BitsAt w S u a) (hv:BitsAt w T v b) (a1:-9223372036854775808<=a.len) (a2:a.len<=9223372036854775807) (b1:-9223372036854775808<=b.len) (b2:b.len<=9223372036854775807) :
  Calls prog 149 #[u,v,.func (.func 150) #[] #[]] w (zf3 a b w):=by
 obtain ⟨sa,rfl,a9⟩:=hu;obtain ⟨sb,rfl,a8⟩:=hv;obtain ⟨aa,ca,rfl⟩:=a9.slice;obtain ⟨ab,cb,rfl⟩:=a8.slice;have d4:=zjy a9.any;have d3:=zjy a8.any;obtain ⟨la,A⟩:=a;obtain ⟨lb,B⟩:=b;dsimp only at d4 d3 a1 a2 b1 b2;have HP:=zjy (show ∀ (e:Ending) (w':World),zf3 ⟨la,A⟩ ⟨lb,B⟩ w e w'->zf3 ⟨la,A⟩ ⟨lb,B⟩ w e w' from fun _ _ h=>h)
 obtain ⟨PP,f4⟩:=xex (zf3 ⟨la,A⟩ ⟨lb,B⟩ w);rw [f4];have d5:=zjy f4;clear a9 a8 f4 HP;obtain ⟨na,e6⟩:=xex (A.length);obtain ⟨nb,e4⟩:=xex (B.length);have c7:=zjy e6;have c6:=zjy e4;dsimp only;rw [e6] at d4 ⊢;rw [e4] at d3 ⊢;clear e6 e4;go_enter func149,ntmps149
 go_wp2_with fail
 refine zah (fun W hW=>?_)
 have d2:Below w.heap.size w W:=by rw [hW];exact (((Below.refl _ _).alloc xnl _).alloc (by simp) _).alloc (by simp;omega) _
 have f3:W.heap[w.heap.size]?=some (.cells #[.int .i64 la,.slice aa na ca] 56 (0,0)):=by rw [hW];exact zaf (zaf (zac rfl))
 have f5:W.heap[w.heap.size+1]?=some (.cells #[.int .i64 lb,.slice ab nb cb] 56 (0,0)):=by rw [hW];exact zaf (zac (by simp))
 have e3:W.heap[w.heap.size+2]?=some (.cells #[.int .i64 0,.slice none 0 0] 56 (0,0)):=by rw [hW];exact zac (by simp)
 clear hW;have c2:BitsAt W zau (.agg #[.int .i64 la,.slice aa na ca]) ⟨la,A⟩:=⟨_,rfl,d4.o.below d2⟩;refine (zfq zau _ ⟨la,A⟩ W c2 a1 a2).mono ?_;obtain ⟨va,a9⟩:=xex (zap ⟨la,A⟩);rw [a9];rintro e w1 ⟨rfl,hb⟩;have f9:=zjy a9;have d8:=zjy (d2.trans (hb.mono d2.size));have d9:=zjy (zab hb (zaa f3) f3);have d7:=zjy (zab hb (zaa f5) f5);have b8:=zjy (zab hb (zaa e3) e3);have lA:=zaa d9.o;have lC:=zaa d7.o;have lR:=zaa b8.o;obtain ⟨x0,x1⟩:=zae d9.o;obtain ⟨y0,y1⟩:=zae d7.o;obtain ⟨r0,r1⟩:=zae b8.o;have f0:=frozen_of_row _ _ 0 _ _ b8.o;have f1:=frozen_of_row _ _ 1 _ _ b8.o;clear hb d2 f3 f5 e3 c2 a9;cases va
 ·have a7:=zjy (zgw (a:=⟨la,A⟩) (b:=⟨lb,B⟩) (by rw [f9.o];simp))
  go_wp2_with fail
  refine zai rfl rfl (zad (i:=1) (zad (i:=0) b8.o)) underlying56 rfl (by kernel_rfl) ?_;rw [<- d5.o];exact ⟨_,by rw [a7.o];rfl,by rw [a7.o];exact BitsAt.none _ _,(d8.o.setCell (p:=⟨w.heap.size+1+1,0,none⟩) (by simp;omega) _).setCell (p:=⟨w.heap.size+1+1,1,none⟩) (by simp;omega) _⟩
 ·go_wp2_with fail
  refine (zfq zau _ ⟨lb,B⟩ w1 ⟨_,rfl,d3.o.below d8.o⟩ b1 b2).mono ?_;obtain ⟨vb,a8⟩:=xex (zap ⟨lb,B⟩);rw [a8];rintro e w2 ⟨rfl,hb⟩;have f8:=zjy a8;have b9:=xhh d8 hb;have a4:=zjy (zab hb lA d9.o);have d1:=zjy (zab hb lC d7.o);have a6:=zjy (zab hb lR b8.o);clear hb x0 x1 y0 y1 r0 r1 f0 f1 d8 d9 d7 b8 lA lC lR a8;have lA:=zaa a4.o;have lC:=zaa d1.o;have lR:=zaa a6.o;obtain ⟨x0,x1⟩:=zae a4.o;obtain ⟨y0,y1⟩:=zae d1.o;obtain ⟨r0,r1⟩:=zae a6.o;have f0:=frozen_of_row _ _ 0 _ _ a6.o;have f1:=frozen_of_row _ _ 1 _ _ a6.o;cases vb
  ·have a7:=zjy (zgw (a:=⟨la,A⟩) (b:=⟨lb,B⟩) (by rw [f8.o];simp))
   go_wp2_with fail
   refine zai rfl rfl (zad (i:=1) (zad (i:=0) a6.o)) underlying56 rfl (by kernel_rfl) ?_;rw [<- d5.o];exact ⟨_,by rw [a7.o];rfl,by rw [a7.o];exact BitsAt.none _ _,(b9.o.setCell (p:=⟨w.heap.size+1+1,0,none⟩) (by simp;omega) _).setCell (p:=⟨w.heap.size+1+1,1,none⟩) (by simp;omega) _⟩
  ·by_cases hl:la=lb
   rotate_left
   ·have d0:(la != lb)=true:=by simpa using hl
    have a7:=zjy (zgw (a:=⟨la,A⟩) (b:=⟨lb,B⟩) (fun h=>hl h.2.2))
    clear hl;go_wp2_with fail
    refine zai rfl rfl (zad (i:=1) (zad (i:=0) a6.o)) underlying56 rfl (by kernel_rfl) ?_;rw [<- d5.o];exact ⟨_,by rw [a7.o];rfl,by rw [a7.o];exact BitsAt.none _ _,(b9.o.setCell (p:=⟨w.heap.size+1+1,0,none⟩) (by simp;omega) _).setCell (p:=⟨w.heap.size+1+1,1,none⟩) (by simp;omega) _⟩
   ·subst hl
    have d0:(la != la)=false:=by simp
    have e8:=zcw f9.o;have g8:=zcw f8.o;dsimp only at e8 g8;have h7:nb=na:=by have:=c7.o;have:=c6.o;omega
    subst h7;have hn8:nb<=8:=by have:=c6.o;omega
    have h0:=zjy (andB_some (a:=⟨la,A⟩) (b:=⟨la,B⟩) ⟨f9.o,f8.o,rfl⟩);have g4:=run_make_row' (P:=prog) 54 39 (.int .u64 0) 8 underlying54 infoU rfl .i64 .i64 nb (by omega) (by omega);rw [made_words] at g4;have g7:(zih A B).length=nb:=by rw [andL_len (by rw [c7.o,c6.o])];exact c7.o
    have c9:=zjy g7;clear e8 g8 g7;go_wp2_with fail
    let QF:=bodyPost prog Tryz.f149 (fun _ _=>True)
    have z2:w.heap.size+2<w2.heap.size:=lR;have b7:=zjy (d4.o.below b9.o);have b6:=zjy (d3.o.below b9.o);go_cut [8] (fun s8 wx=>∃ gw c8:Nat,s8 = .pointer (some ⟨c8,0,none⟩)/\BothAt w la (.slice aa nb ca) (.slice ab nb cb) A B gw c8 nb (zid (zih A B) 0) wx)
    case first =>
     refine wp_region_noPanic ?_
     refine wp_region_held_drew (S:=(fun w'=>w'.cell? ⟨w.heap.size,0,none⟩=some (.int .i64 la)/\w'.cell? ⟨w.heap.size,1,none⟩=some (.slice aa nb ca))) (by kernel_rfl) (⟨x0,x1⟩) (fun hHeld=>?_)
     refine tH 0 ?_;refine tH 1 ?_;refine tH 2 ?_;refine tH 3 ?_;refine tH 4 ?_;have HZ:=zjy (show (List.replicate nb (0:Int))=zid (zih A B) 0 by rw [partW_zero,c9.o]);refine wpAnyH_ready (rs:=[5,7]) (by kernel_rfl) (by simp) ?_
     refine AllReadyH.cons rfl (fun K hK=>?_) (AllReadyH.cons rfl (fun K hK=>?_) AllReadyH.nil)
     focus
      go_simp;have b1:Below w2.heap.size w2 (w2.alloc (.cells ((List.replicate nb (0:Int)).flatMap zc7).toArray 39)).drew:=((Below.refl _ _).alloc xnl _).drew
      refine hK.out _ _ (zae (zab b1 lA a4.o)) (fun hHeld=>?_)
      clear hK K
      refine zcl (fun V1 hV1=>?_)
      rw [<- hV1] at b1;have g1:V1.heap[w2.heap.size]?=some (.cells ((List.replicate nb (0:Int)).flatMap zc7).toArray 39 (0,0)):=by rw [hV1];exact zac rfl
      clear hV1 hHeld;have hHeld:=zae (zab b1 lA a4.o);refine tH 6 ?_
      refine xrH 7 rfl fun K hK=>?_
      go_simp;have b2:Below V1.heap.size V1 (V1.alloc (.cells #[.int .i64 0,.slice none 0 0] 56)):=(Below.refl _ _).alloc xnl _;have b3:=b1.trans (b2.mono b1.size)
      refine hK.out _ _ (zae (zab b3 lA a4.o)) (fun hHeld=>?_)
      clear hK K
      refine zcl (fun V2 hV2=>?_)
      rw [<- hV2] at b2 b3;have lg:=zaa g1;have g2:V2.heap[w2.heap.size]?=some (.cells ((List.replicate nb (0:Int)).flatMap zc7).toArray 39 (0,0)):=zab b2 lg g1;have h2:V2.heap[V1.heap.size]?=some (.cells #[.int .i64 0,.slice none 0 0] 56 (0,0)):=by rw [hV2];exact zac rfl
      clear hV2 hHeld;have hHeld:=zae (zab b3 lA a4.o);obtain ⟨c8,h9⟩:=xex (V1.heap.size);rw [h9] at h2 lg ⊢;obtain ⟨e0,e1⟩:=zae h2;have i3:=frozen_of_row _ _ 0 _ _ h2;have i2:=frozen_of_row _ _ 1 _ _ h2
      have hh:=zjy (show BothAt w la (.slice aa nb ca) (.slice ab nb cb) A B w2.heap.size c8 nb (zid (zih A B) 0) ((V2.setCell ⟨c8,0,none⟩ (.int .i64 la)).setCell ⟨c8,1,none⟩ (.slice (some ⟨w2.heap.size,0,none⟩) nb nb)) from
       both_laid0 b3 b9.o a4.o d1.o a6.o b7.o b6.o (by rw [<- HZ.o];exact g2) h2 (by rw [partW_len];exact c9.o) xnl (by omega) (by omega) z2)
      refine xrH 8 rfl fun K hK=>?_
      go_simp;skip
      refine hK.out _ _ (zae hh.o.ha) (fun hHeld=>?_)
      clear hK K;refine wpAnyH_done (by kernel_rfl) ?_ _;refine NoPanic.normal ?_;go_wp2_with fail
      go_meet;exact ⟨_,_,rfl,hh.o⟩
     focus
      go_simp;have b1:Below w2.heap.size w2 (w2.alloc (.cells #[.int .i64 0,.slice none 0 0] 56)).drew:=((Below.refl _ _).alloc xnl _).drew
      refine hK.out _ _ (zae (zab b1 lA a4.o)) (fun hHeld=>?_)
      clear hK K
      refine zcl (fun V1 hV1=>?_)
      rw [<- hV1] at b1;have h1:V1.heap[w2.heap.size]?=some (.cells #[.int .i64 0,.slice none 0 0] 56 (0,0)):=by rw [hV1];exact zac rfl
      clear hV1 hHeld;have hHeld:=zae (zab b1 lA a4.o)
      refine xrH 5 rfl fun K hK=>?_
      go_simp;have b2:Below V1.heap.size V1 (V1.alloc (.cells ((List.replicate nb (0:Int)).flatMap zc7).toArray 39)):=(Below.refl _ _).alloc xnl _;have b3:=b1.trans (b2.mono b1.size)
      refine hK.out _ _ (zae (zab b3 lA a4.o)) (fun hHeld=>?_)
      clear hK K
      refine zcl (fun V2 hV2=>?_)
      rw [<- hV2] at b2 b3;have lg:=zaa h1;have g2:V2.heap[V1.heap.size]?=some (.cells ((List.replicate nb (0:Int)).flatMap zc7).toArray 39 (0,0)):=by rw [hV2];exact zac rfl
      have h2:V2.heap[w2.heap.size]?=some (.cells #[.int .i64 0,.slice none 0 0] 56 (0,0)):=zab b2 lg h1;clear hV2 hHeld;have hHeld:=zae (zab b3 lA a4.o);obtain ⟨gw,h8⟩:=xex (V1.heap.size);rw [h8] at g2 lg ⊢;obtain ⟨e0,e1⟩:=zae h2;have i3:=frozen_of_row _ _ 0 _ _ h2;have i2:=frozen_of_row _ _ 1 _ _ h2
      have hh:=zjy (show BothAt w la (.slice aa nb ca) (.slice ab nb cb) A B gw w2.heap.size nb (zid (zih A B) 0) ((V2.setCell ⟨w2.heap.size,0,none⟩ (.int .i64 la)).setCell ⟨w2.heap.size,1,none⟩ (.slice (some ⟨gw,0,none⟩) nb nb)) from
       both_laid0 b3 b9.o a4.o d1.o a6.o b7.o b6.o (by rw [<- HZ.o];exact g2) h2 (by rw [partW_len];exact c9.o) (by omega) xnl (by omega) z2)
      refine tH 6 ?_
      refine xrH 8 rfl fun K hK=>?_
      go_simp;skip
      refine hK.out _ _ (zae hh.o.ha) (fun hHeld=>?_)
      clear hK K;refine wpAnyH_done (by kernel_rfl) ?_ _;refine NoPanic.normal ?_;go_wp2_with fail
      go_meet;exact ⟨_,_,rfl,hh.o⟩
    case rest =>
     obtain ⟨gw,c8,rfl,a3⟩:=hcut;have d6:=zjy (show (zih A B).length=nb from c9.o);have i6:=zjy (show A.length=nb by rw [c7.o]);have i5:=zjy (show B.length=nb by rw [c6.o]);obtain ⟨W0,i1⟩:∃ u,u=wc:=⟨_,rfl⟩;subst i1;have i7:=zjy a3;obtain ⟨a0,a1⟩:=zae a3.ha;have zA:=zaa a3.ha;clear a3 x0 x1 y0 y1 r0 r1 f0 f1 g4 b7 b6 c9 c7 c6 a4 d1 a6 b9 lA lC lR z2;go_wp2_with fail
     go_loopw [37] (fun i wr=>∃ k:Nat,k<=nb/\i = .int .i64 k/\BothAt w la (.slice aa nb ca) (.slice ab nb cb) A B gw c8 nb (zid (zih A B) k) wr) (fun i _=>nb - (intOf i).toNat)
     case atStart=>exact ⟨0,by omega,rfl,i7.o⟩
     case round =>
      obtain ⟨k,hk,rfl,a3⟩:=hrel;obtain ⟨WR,i0⟩:∃ u,u=wr:=⟨_,rfl⟩;subst i0;have a5:=zjy a3;by_cases hlt:k<nb
      ·have hq:decide ((k:Int)<nb)=true:=by simp;omega
       have f2:k<A.length:=by rw [i6.o];exact hlt
       have e9:k<B.length:=by rw [i5.o];exact hlt
       have e7:k<(zih A B).length:=by rw [d6.o];exact hlt
       have hki:(k:Int)<(nb:Int):=by omega
       obtain ⟨b1',h3,e1,lb1,g6⟩:=a3.va.get k f2;cases e1;have g9:=g6 0 _ rfl;rw [Nat.mul_one,Nat.add_zero] at g9;obtain ⟨f7,c1,e2,lb2,g5⟩:=a3.vb.get k e9;cases e2;have c0:=g5 0 _ rfl;rw [Nat.mul_one,Nat.add_zero] at c0;have b4:=partW_set (zih A B) k e7;have b5:=andL_get (A:=A) (B:=B) k f2 e9 e7;obtain ⟨x,hx⟩:=xex (A[k]);obtain ⟨y,hy⟩:=xex (B[k]);rw [hx,hy] at b5;rw [hx] at g9;rw [hy] at c0;rw [b5] at b4;have g0:=zjy b4;obtain ⟨b0,b1⟩:=zae a3.hb;obtain ⟨i4,f6⟩:=zae a3.hc;have cw:=word_cell a3.hw k (by rw [a3.wl];exact hlt);have fw:=frozen_of_row _ _ k _ _ a3.hw;have lgw:=zaa a3.hw;have h4:=zaa a3.hc;have lb8:=zaa a3.hb;have hS:=zjy (a3.set k (andW x y));obtain ⟨o1,o2,o3⟩:=a3.ne;have cb9:=c0
       have c5:f7≠gw:=by
        obtain ⟨aV,cV,eV,_,hV⟩:=a3.vb;obtain ⟨bV,oV,e5,h5,_⟩:=hV (by omega);cases eV;cases e5;exact h5
       clear g6 g5 hx hy b5 b4 a3 f2 e9 e7;obtain ⟨cwv,c4⟩:=xex ((zid (zih A B) k).getD k 0);rw [c4] at cw;clear c4;go_wp2_with fail
       refine wp_region_noPanic ?_
       refine wp_region_held_drew (S:=(fun w'=>w'.cell? ⟨c8,1,none⟩=some (.slice (some ⟨gw,0,none⟩) nb nb)/\w'.cell? ⟨w.heap.size+1,1,none⟩=some (.slice (some ⟨f7,c1,none⟩) nb cb)/\w'.cell? ⟨f7,c1+k,none⟩=some (.int .u64 y))) (by kernel_rfl) (⟨f6,b1,c0⟩) (fun hHeld=>?_)
       refine tH 0 ?_;refine tH 1 ?_;refine tH 2 ?_;refine tH 3 ?_;refine tH 4 ?_;refine tH 5 ?_;refine tH 6 ?_;refine tH 7 ?_;refine tH 8 ?_;refine tH 9 ?_
       refine xrH 10 rfl fun K hK=>?_
       go_simp;refine (and1_any _ _ _).mono ?_;rintro e w' ⟨rfl,rfl⟩
       refine hK.out _ _ (⟨f6,b1,c0⟩) (fun hHeld=>?_)
       clear hK K;refine tH 11 ?_
       refine xrH 12 rfl fun K hK=>?_
       go_simp;skip
       refine hK.out _ _ (⟨(zae hS.o.hc).2,(zae hS.o.hb).2,((World.cell?_setCell_other _ _ _ _ (fun e=>by first | exact c5 (congrArg Addr.block e) | exact c5 (congrArg Addr.block e).symm)).trans c0)⟩) (fun hHeld=>?_)
       clear hK K;refine wpAnyH_done (by kernel_rfl) ?_ _;refine NoPanic.normal ?_;go_wp2_with fail
       go_roundw
       case rel=>exact ⟨k+1,by omega,by go_num,by rw [<- g0.o];exact hS.o.drew⟩
       case measure=>simp [intOf];omega
      ·have hq:decide ((k:Int)<nb)=false:=by simp;omega
       have c3:zid (zih A B) k=zih A B:=by
        have:k=(zih A B).length:=by rw [d6.o];omega
        rw [this];exact partW_all _
       rw [c3] at a5;obtain ⟨i4,f6⟩:=zae a5.o.hc;obtain ⟨r0,r1⟩:=zae a5.o.hr;have f0:=frozen_of_row _ _ 0 _ _ a5.o.hr;have f1:=frozen_of_row _ _ 1 _ _ a5.o.hr;have h4:=zaa a5.o.hc;have lr8:=zaa a5.o.hr;clear a3 c3 a0 a1;go_wp2_with fail
       refine zai rfl rfl (zad (i:=1) (zad (i:=0) a5.o.hr)) underlying56 rfl (by kernel_rfl) ?_;rw [<- d5.o];have hne:=a5.o.ne;refine ⟨_,by rw [h0.o];rfl,?_,(a5.o.b.setCell (p:=⟨w.heap.size+2,0,none⟩) (by simp) _).setCell (p:=⟨w.heap.size+2,1,none⟩) (by simp) _⟩;rw [h0.o];refine ⟨_,rfl,?_⟩;have h6:=zam (a:=⟨w.heap.size+2,1,none⟩) (v:=.slice (some ⟨gw,0,none⟩) nb nb) (zam (a:=⟨w.heap.size+2,0,none⟩) (v:=.int .i64 la) a5.o.hw (by show gw≠w.heap.size+2;omega)) (by show gw≠w.heap.size+2;omega);have g3:=ze5 (k:=1) (enc:=zc7) (L:=zih A B) (S:=fun x=>w.heap.size<=x) (fun _=>rfl) h6 (by show w.heap.size<=gw;omega) nb (by rw [d6.o])
       try rw [d6.o] at g3
       exact g3
end
section
open Go.RowKit
structure GV where
 len:Int
 wa:Option Addr
 wn:Nat
 wc:Nat
 a:Option Addr
 n:Nat
 c:Nat
 ws:List Int
 mem:List Int
instance:Inhabited GV:=⟨⟨0,none,0,0,none,0,0,[],[]⟩⟩
abbrev zf5 (x:GV):List Value:=[.int .i64 x.len,.slice x.wa x.wn x.wc,.slice x.a x.n x.c]
def pG (x:GV):GrpL:=⟨⟨x.len,x.ws⟩,x.mem⟩
theorem one_encG:∀ x:GV,∀ u∈zf5 x,u.oneCell'=true:=by
 intro x u hu;simp at hu;rcases hu with rfl | rfl | rfl <;> rfl
def GroupsAt (w:World) (S:Nat->Prop) (v:Value) (G:List GrpL):Prop :=
 ∃ C:List GV,Vec w S 3 zf5 v C/\C.map pG=G/\∀ x∈C,Vec w S 1 zc7 (.slice x.wa x.wn x.wc) x.ws/\Vec w S 1 zif (.slice x.a x.n x.c) x.mem
theorem GroupsAt.move {w w':World} {S T:Nat->Prop} {v:Value} {G:List GrpL} (h:GroupsAt w S v G) (hz:w.heap.size<=w'.heap.size) (hS:∀ b,b<w.heap.size->S b->w'.heap[b]?=w.heap[b]?/\T b):GroupsAt w' T v G:=by
 obtain ⟨C,h1,h2,h3⟩:=h;exact ⟨C,h1.move hz hS,h2,fun x hx=>⟨(h3 x hx).1.move hz hS,(h3 x hx).2.move hz hS⟩⟩
theorem GroupsAt.below {w w':World} {S:Nat->Prop} {v:Value} {G:List GrpL} (h:GroupsAt w S v G) (hb:Below w.heap.size w w'):GroupsAt w' S v G:=h.move hb.size fun b hb' hs=>⟨hb.block b hb',hs⟩
theorem GroupsAt.slice {w:World} {S:Nat->Prop} {v:Value} {G:List GrpL} (h:GroupsAt w S v G):∃ a cap,v = .slice a G.length cap:=by
 obtain ⟨C,h1,h2,_⟩:=h;obtain ⟨a,cap,rfl⟩:=h1.slice;exact ⟨a,cap,by rw [<- h2,List.length_map]⟩
theorem GroupsAt.at {w:World} {S:Nat->Prop} {a:Option Addr} {n cap:Nat} {G:List GrpL} (h:GroupsAt w S (.slice a n cap) G) (j:Nat) (hj:j<G.length) :
  ∃ (b off:Nat) (x:GV),a=some ⟨b,off,none⟩/\b<w.heap.size/\(w.cell? ⟨b,off+j*3,none⟩=some (.int .i64 x.len)/\w.cell? ⟨b,off+j*3+1,none⟩=some (.slice x.wa x.wn x.wc)/\w.cell? ⟨b,off+j*3+2,none⟩=some (.slice x.a x.n x.c)) /\
   Vec w S 1 zc7 (.slice x.wa x.wn x.wc) x.ws/\Vec w S 1 zif (.slice x.a x.n x.c) x.mem/\pG x=G[j]:=by
 obtain ⟨C,h1,h2,h3⟩:=h;subst h2;have a0:j<C.length:=by simpa using hj
 obtain ⟨b,off,e,hb,hc⟩:=h1.get j a0;obtain ⟨h4,h5⟩:=h3 _ (List.getElem_mem a0);exact ⟨b,off,C[j],e,hb,⟨hc 0 _ rfl,hc 1 _ rfl,hc 2 _ rfl⟩,h4,h5,by simp⟩
abbrev zd1 (x:zc2):List Value:=[zak x.1,.int .i64 x.2]
abbrev GsL:=Int × List UInt8
abbrev zhn (x:GsL):List Value:=[.int .i64 x.1,zak x.2]
theorem one_encGs:∀ x:GsL,∀ u∈zhn x,u.oneCell'=true:=by
 intro x u hu;simp at hu;rcases hu with rfl | rfl <;> rfl
theorem one_encEn:∀ x:zc2,∀ u∈zd1 x,u.oneCell'=true:=by
 intro x u hu;simp at hu;rcases hu with rfl | rfl <;> rfl
theorem zf1 (p:Int->Bool) (L:List Int) (k:Nat) (h:k<L.length):(L.take (k+1)).countP p=(L.take k).countP p+(if p L[k]=true then 1 else 0):=by
 rw [List.take_succ_eq_append_getElem h,List.countP_append];simp [List.countP_cons]
theorem infoZ:(prog.info? 3).map (fun i=>(i.zero,i.size,i.bytes))=some (some (.int .i64 0),1,8):=by kernel_rfl
end
section
open Go.RowKit
theorem rank_any (S:Nat->Prop) (v:Value) (L:List Int) (i:Nat) (w:World) (h:Vec w S 1 zif v L) (hi:i<L.length) (hn:L.length<=1000000) :
  Calls prog 105 #[v,.int .i64 i] w fun e w'=>e = .returned (.tuple #[.int .i64 (zbt L L[i]).1,.bool (zbt L L[i]).2])/\w=w':=by
 obtain ⟨a,cap,rfl⟩:=h.slice;have HV:=zjy h;clear h;obtain ⟨x,hx⟩:=xex (L[i]);rw [hx];obtain ⟨b,off,rfl,hb,hc⟩:=HV.o.get i hi;have ci:=hc 0 _ rfl;rw [Nat.mul_one,Nat.add_zero,hx] at ci;obtain ⟨⟨r,u⟩,hr⟩:∃ p,zbt L x=p:=⟨_,rfl⟩;rw [hr];have HR:=zjy hr;obtain ⟨n,a1⟩:=xex (L.length);have HN:=zjy a1;rw [a1] at hi hn HV ⊢;have hii:(i:Int)<(n:Int):=by omega
 clear hc hr hx a1;go_enter func105,ntmps105
 go_wp2_with fail
 go_loopw [6,7,12] (fun g q j wr=>wr=w/\∃ k:Nat,j = .int .i64 k/\k<=n/\∃ g' q':Nat,g = .int .i64 g'/\q = .int .i64 q'/\g'<=k/\q'<=k/\Hid ((L.take k).countP (fun y=>decide (x<y))=g')/\Hid ((L.take k).countP (fun y=>decide (y=x))=q')) (fun _ _ j _=>n - (intOf j).toNat)
 case atStart=>exact ⟨rfl,0,rfl,by omega,0,0,rfl,rfl,by omega,by omega,zjy (by simp),zjy (by simp)⟩
 case round =>
  obtain ⟨rfl,k,rfl,hk,g,q,rfl,rfl,hg,hq',HG,HQ⟩:=hrel;by_cases hlt:k<n
  ·have hq:decide ((k:Int)<n)=true:=by simp;omega
   have a0:k<L.length:=by rw [HN.o];exact hlt
   obtain ⟨b',a3,e,_,hc⟩:=HV.o.get k a0;cases e;have c0:=hc 0 _ rfl;rw [Nat.mul_one,Nat.add_zero] at c0;obtain ⟨y,hy⟩:=xex (L[k]);have m1:=zf1 (fun y=>decide (x<y)) L k a0
   have m2:=zf1 (fun y=>decide (y=x)) L k a0
   rw [hy] at c0 m1 m2;rw [HG.o] at m1;rw [HQ.o] at m2;clear hc hy HG HQ
   rcases (by omega:x<y\/y=x\/y<x) with h1 | h1 | h1
   ·have d1:decide (x<y)=true:=by simp;omega
    have d2:decide (y=x)=false:=by simp;omega
    rw [d1] at m1;rw [d2] at m2;have M1:=zjy (show (L.take (k+1)).countP (fun y=>decide (x<y))=g+1 from m1)
    have M2:=zjy (show (L.take (k+1)).countP (fun y=>decide (y=x))=q from m2)
    clear m1 m2 d2;go_wp2_with fail
    go_roundw
    case rel=>exact ⟨trivial,k+1,by go_num,by omega,g+1,q,by go_num,rfl,by omega,by omega,M1,M2⟩
    case measure=>simp [intOf];omega
   ·have d1:decide (x<y)=false:=by simp;omega
    have d2:decide (y=x)=true:=by simp;omega
    have d3:(y == x)=true:=by simp;omega
    rw [d1] at m1;rw [d2] at m2;have M1:=zjy (show (L.take (k+1)).countP (fun y=>decide (x<y))=g from m1)
    have M2:=zjy (show (L.take (k+1)).countP (fun y=>decide (y=x))=q+1 from m2)
    clear m1 m2 d2;subst h1;go_wp2_with fail
    go_roundw
    case rel=>exact ⟨trivial,k+1,by go_num,by omega,g,q+1,rfl,by go_num,by omega,by omega,M1,M2⟩
    case measure=>simp [intOf];omega
   ·have d1:decide (x<y)=false:=by simp;omega
    have d2:decide (y=x)=false:=by simp;omega
    have d3:(y == x)=false:=by simp;omega
    rw [d1] at m1;rw [d2] at m2;have M1:=zjy (show (L.take (k+1)).countP (fun y=>decide (x<y))=g from m1)
    have M2:=zjy (show (L.take (k+1)).countP (fun y=>decide (y=x))=q from m2)
    clear m1 m2 d2;go_wp2_with fail
    go_roundw
    case rel=>exact ⟨trivial,k+1,by go_num,by omega,g,q,rfl,rfl,by omega,by omega,M1,M2⟩
    case measure=>simp [intOf];omega
  ·have hq:decide ((k:Int)<n)=false:=by simp;omega
   have e1:=HG.o;have e2:=HQ.o;rw [List.take_of_length_le (by rw [HN.o];omega)] at e1 e2;have hr:=HR.o;unfold zbt at hr;rw [e1,e2] at hr;have a4:(g:Int)=r:=congrArg Prod.fst hr;have a2:decide (q=1)=u:=congrArg Prod.snd hr;have hr3:((q:Int) == 1)=u:=by rw [<- a2];by_cases hq1:q=1 <;> simp [hq1];omega
   clear e1 e2 hr HG HQ a2;go_wp2_with fail
   go_ret2;subst a4;exact ⟨rfl,rfl⟩
end
section
open Go.RowKit
theorem sizesG_more (G:List GrpL) (k:Nat) (h:k<G.length):zao (G.take (k+1))=zao (G.take k)++[(G[k].mem.length:Int)]:=by
 unfold zao;rw [List.take_succ_eq_append_getElem h,List.map_append];rfl
theorem Vec.lenN {w:World} {S:Nat->Prop} {k:Nat} {α:Type} {enc:α->List Value} {a:Option Addr} {n cap:Nat} {L:List α} (h:Vec w S k enc (.slice a n cap) L):n=L.length:=h.len.1
theorem sizes_any (S:Nat->Prop) (v:Value) (G:List GrpL) (w:World) (h:GroupsAt w S v G) (hn:G.length<=1000000) :
  Calls prog 106 #[v] w fun e w'=>∃ v',e = .returned v'/\OwnV 3 1 zif w v' (zao G) w':=by
 obtain ⟨a,cap,rfl⟩:=h.slice;have HK:=zjy h;clear h;obtain ⟨n,a7⟩:=xex (G.length);have HN:=zjy a7;rw [a7] at hn HK ⊢;clear a7;go_enter func106,ntmps106
 go_wp2_with fail
 go_loopw [3,5,8] (fun o _ j wr=>∃ k:Nat,j = .int .i64 k/\k<=n/\OwnV 3 1 zif w o (zao (G.take k)) wr) (fun _ _ j _=>n - (intOf j).toNat)
 case atStart=>exact ⟨0,rfl,by omega,by simpa [zao] using OwnV.start _ _ _ _⟩
 case round =>
  obtain ⟨k,rfl,hk,ho⟩:=hrel;have HO:=zjy ho;clear ho;by_cases hlt:k<n
  ·have hq:decide ((k:Int)<n)=true:=by simp;omega
   have a2:k<G.length:=by rw [HN.o];exact hlt
   obtain ⟨b,off,⟨len,wa,wn,wc,ma,mn,mc,ws,mem⟩,e,lb,⟨c0,c1,c2⟩,hw,hm,hp⟩:=(HK.o.below HO.o.2).at k a2;cases e;have a6:=hm.lenN;dsimp only at a6 c0 c1 c2;have a1:G[k].mem.length=mn:=by rw [<- hp,a6];rfl
   have a0:=sizesG_more G k a2;rw [a1] at a0;have HM:=zjy a0;have a8:(zao (G.take k)).length=k:=by simp [zao];omega
   have a9:=zjy a8;clear hw hm hp a6 a1 a0 a8;have hbz:=HO.o.2.size;have a5:=(HO.o.below ((Below.refl wr.heap.size wr).alloc xnl (.cells #[.int .i64 len,.slice wa wn wc,.slice ma mn mc] 107)));have a4:=a5.1;rw [a9.o] at a4;have b3:=zjy a4;have b0:=zjy a5.2;clear a5 a4;go_wp2_with (at_builtin;refine zbs rfl _ _ 22 rfl w.heap.size 3 1 8 (.int .i64 0) underlying22 infoZ rfl (by decide) (by decide) _ _ _ rfl b3.o (wr.heap.size+1) (by simp) #[.int .i64 mn] 1 rfl rfl (by simp [Value.oneCell']) (by omega) b0.o.size ?_;intro v8 w8 b2 b1)
   go_roundw
   case rel =>
    refine ⟨k+1,by go_num,by omega,?_⟩;rw [HM.o];exact ⟨by rw [List.length_append,a9.o,List.flatMap_append];exact b2,b1 _ b0.o⟩
   case measure=>simp [intOf];omega
  ·have hq:decide ((k:Int)<n)=false:=by simp;omega
   have a3:zao (G.take k)=zao G:=by rw [List.take_of_length_le (by rw [HN.o];omega)]
   rw [a3] at HO;clear a3;go_wp2_with fail
   go_ret;exact ⟨_,rfl,HO.o⟩
theorem zi3 (s:List Int) (k:Nat) (h:k<s.length):((s.take (k+1)).map fun x=>if (zbt s x).2=true then x else 0).sum=((s.take k).map fun x=>if (zbt s x).2=true then x else 0).sum+(if (zbt s s[k]).2=true then s[k] else 0):=by
 rw [List.take_succ_eq_append_getElem h,List.map_append,List.sum_append];simp
theorem singular_any (S:Nat->Prop) (v:Value) (G:List GrpL) (w:World) (h:GroupsAt w S v G) (hn:G.length<=1000) (hm:∀ g∈G,g.mem.length<=1000) :
  Calls prog 71 #[v] w fun e w'=>e = .returned (.int .i64 (zdp G))/\Below w.heap.size w w':=by
 have a3:∀ x∈zao G,0<=x/\x<=1000:=by
  intro x hx;obtain ⟨g,hg,rfl⟩:=List.mem_map.1 hx;have:=hm g hg;omega
 have a7:=zjy a3;have HK:=zjy h;have hl:(zao G).length=G.length:=by simp [zao]
 obtain ⟨s,hs⟩:=xex (zao G);obtain ⟨r,hr⟩:=xex (zdp G);rw [hr];unfold zdp at hr;rw [hs] at hr a7 hl;have HR:=zjy hr;have HS:=zjy hs;obtain ⟨n,a5⟩:=xex (s.length);have HN:=zjy a5;have hn':n<=1000:=by omega
 clear h hr hs a3 hm a5 hl hn;go_enter func71,ntmps71
 go_wp2_with fail
 refine (sizes_any S _ G _ HK.o (by have:=HN.o;rw [<- HS.o] at this;simp [zao] at this;omega)).mono ?_;rw [HS.o];rintro e w1 ⟨v',rfl,ho⟩;obtain ⟨a,cap,e1⟩:=zar ho.1;subst e1;have HV:=zjy (OwnV.vec (size:=1) (enc:=zif) (fun _=>rfl) ho);have HB:=zjy ho.2
 rw [HN.o] at HV ⊢;clear ho;go_wp2_with fail
 go_loopw [3,5,6,7,8,13] (fun o _ _ _ _ j wr=>wr=w1/\∃ k:Nat,j = .int .i64 k/\k<=n/\∃ q:Int,o = .int .i64 q/\0<=q/\q<=1000*k/\Hid (((s.take k).map fun x=>if (zbt s x).2=true then x else 0).sum=q)) (fun _ _ _ _ _ j _=>n - (intOf j).toNat)
 case atStart=>exact ⟨rfl,0,rfl,by omega,0,rfl,by omega,by omega,zjy (by simp)⟩
 case round =>
  obtain ⟨rfl,k,rfl,hk,q,rfl,hq0,hq1,HQ⟩:=hrel;by_cases hlt:k<n
  ·have hq:decide ((k:Int)<n)=true:=by simp;omega
   have a1:k<s.length:=by rw [HN.o];exact hlt
   obtain ⟨b,off,e,lb,hc⟩:=HV.o.get k a1;cases e;have c0:=hc 0 _ rfl;rw [Nat.mul_one,Nat.add_zero] at c0;have a0:=zi3 s k a1;have a3:=a7.o _ (List.getElem_mem a1);have a2:=rank_any (fun b=>w.heap.size<=b) _ s k wr (by have:=HV.o;rw [<- HN.o] at this;exact this) a1 (by rw [HN.o];omega)
   obtain ⟨x,hx⟩:=xex (s[k]);rw [hx] at c0 a0 a3 a2;rw [HQ.o] at a0;obtain ⟨⟨ra,rb⟩,hra⟩:∃ p,zbt s x=p:=⟨_,rfl⟩;rw [hra] at a0 a2;have a6:=zjy a2;clear hc hx HQ hra a2;rw [HN.o] at a6;go_wp2_with fail
   refine a6.o.mono ?_;rintro e w2 ⟨rfl,rfl⟩;cases rb
   ·have M:=zjy (show ((s.take (k+1)).map fun x=>if (zbt s x).2=true then x else 0).sum=q by simpa using a0)
    clear a0;go_wp2_with fail
    go_roundw
    case rel=>exact ⟨trivial,k+1,by go_num,by omega,q,rfl,by omega,by omega,M⟩
    case measure=>simp [intOf];omega
   ·have M:=zjy (show ((s.take (k+1)).map fun x=>if (zbt s x).2=true then x else 0).sum=q+x by simpa using a0)
    have hwr:IntKind.i64.wrap (q+x)=q+x:=by rw [IntKind.wrap_i64];omega
    clear a0;go_wp2_with fail
    go_roundw
    case rel=>exact ⟨trivial,k+1,by go_num,by omega,q+x,rfl,by omega,by omega,M⟩
    case measure=>simp [intOf];omega
  ·have hq:decide ((k:Int)<n)=false:=by simp;omega
   have a4:q=r:=by rw [<- HQ.o,<- HR.o,List.take_of_length_le (by rw [HN.o];omega)]
   clear HQ;go_wp2_with fail
   go_ret;subst a4;exact ⟨rfl,HB.o⟩
end
section
open Go.RowKit
theorem band_any (S T:Nat->Prop) (u v:Value) (a b:BitsL) (w:World) (hu:BitsAt w S u a) (hv:BitsAt w T v b) (ha:InI a.len) (hbI:InI b.len) :
  Calls prog 110 #[u,v] w (zf3 a b w):=by
 obtain ⟨sa,rfl,a8⟩:=hu;obtain ⟨sb,rfl,a7⟩:=hv;have b0:=zjy a8;have a9:=zjy a7;clear a8 a7;obtain ⟨er,a5⟩:∃ er:Int,(if (andB a b).isSome=true then 0 else 8)=er:=⟨_,rfl⟩;obtain ⟨x,hx⟩:=xex ((andB a b).getD zch);unfold zf3;rw [a5,hx];have b2:=zjy a5;have HX:=zjy hx;clear a5 hx;go_enter func110,ntmps110
 go_wp2_with fail
 refine zah (fun W hW=>?_)
 have a2:Below w.heap.size w W:=by rw [hW];exact (((Below.refl _ _).alloc xnl _).alloc (by simp) _).alloc (by simp;omega) _
 have a4:W.heap[w.heap.size+1+1]?=some (.cells #[.int .i64 0,.slice none 0 0] 56 (0,0)):=by rw [hW];exact zac (by simp)
 clear hW;refine (both_any S T _ _ a b W ⟨_,rfl,b0.o.below a2⟩ ⟨_,rfl,a9.o.below a2⟩ ha.1 ha.2 hbI.1 hbI.2).mono ?_;rintro e w1 ⟨_,rfl,⟨s1,rfl,a0⟩,hb⟩;rw [HX.o] at a0;rw [b2.o,HX.o];obtain ⟨a1,c1,rfl⟩:=a0.slice;have a6:=zaa a4;have a3:=zjy (zab hb a6 a4);have b3:=zjy (a2.trans (hb.mono a2.size));obtain ⟨n,hn⟩:=xex (x.words.length);rw [hn] at a0 ⊢;have b1:=zjy (a0.move (w':=w1) (S':=fun q=>w.heap.size<=q/\q≠w.heap.size+1+1) xnl fun q _ h=>⟨rfl,by have h':W.heap.size<=q:=h;omega⟩)
 obtain ⟨r0,r1⟩:=zae a3.o;have f0:=frozen_of_row _ _ 0 _ _ a3.o;have f1:=frozen_of_row _ _ 1 _ _ a3.o;have lR:=zaa a3.o;dsimp only;clear a0 hb a2 a4 a6 hn;go_wp2_with fail
 refine zai rfl rfl (zad (i:=1) (zad (i:=0) a3.o)) underlying56 rfl (by kernel_rfl) ?_;refine ⟨_,rfl,⟨_,rfl,?_⟩,(b3.o.setCell (p:=⟨w.heap.size+1+1,0,none⟩) (by show w.heap.size<=w.heap.size+1+1;omega) _).setCell (p:=⟨w.heap.size+1+1,1,none⟩) (by show w.heap.size<=w.heap.size+1+1;omega) _⟩;exact ((b1.o.far (fun q h=>h.2)).far (fun q h=>h.2)).move xnl fun q _ h=>⟨rfl,h.1⟩
end
section
open Go.RowKit
section
variable {α:Type} {P:Program} {w:World} {ops:Array Oper} {rest:List Oper} {o:Oper} {a:Act} {Q:Exit->Act->World->Prop}
theorem zgi (hgd:o.guard=none) (s x:Operand) (t:TypeId) (ho:o.op = .call { callee:=.builtin .append,args:=#[s,x],argTypes:=#[t,t] })
  (D e:Nat) (z:Value) (size bytes:Nat) (enc:α->List Value) (hk:∀ x,(enc x).length=size) (h1:∀ x,∀ u∈enc x,u.oneCell'=true) (ht:P.underlying t=some (.slice e)) (hinfo:(P.info? e).map (fun i=>(i.zero,i.size,i.bytes))=some (some z,size,bytes))
  (hzs:z.cells.size=size) (hsz:0<size) (hby:bytes<=128) {wA:World} {v u:Value} {A B:List α} (hs:a.eval s=v) (hown:OwnM D e size enc wA v A w) (hx:a.eval x=u) (hr:zck w size u B.length (B.flatMap enc)) (hn:A.length+B.length<=1000000000)
  (h:∀ v' w',OwnM D e size enc wA v' (A++B) w'->(∀ k o,some k≠v.ownBlock->w.heap[k]?=some o->w'.heap[k]?=some o)->w.heap.size<=w'.heap.size->(v'.ownBlock=none\/v.ownBlock=v'.ownBlock\/v'.ownBlock=some w.heap.size)->wpList P ops Q rest (a.put o.dst v') w'):wpList P ops Q (o :: rest) a w:=by
 refine wpList_plain hgd fun K hK=>?_
 refine zdn s x t ho wA.heap.size e z size bytes ht hinfo hzs hsz v A.length (A.flatMap enc) hs hown.1 u B.length (B.flatMap enc) hx hr (fun u hu=>?_) (by unfold maxLen;omega) ?_ hown.2.size ?_
 ·obtain ⟨y,_,hy⟩:=List.mem_flatMap.1 hu
  exact h1 y u hy
 ·exact Nat.le_trans (Nat.mul_le_mul hn hby) (by decide)
 ·intro v' w' a0 hg a1
  refine hK _ _ (h v' w' ⟨by rw [List.length_append,List.flatMap_append];exact a0,hown.2.grown' hg fun k hk=>?_⟩ (fun k o hk hko=>(hg.block k (zaa hko) hk).trans hko) hg.size a1)
  rcases hown.1.2 with ⟨rfl,_⟩ | ⟨g,cap,cur,rfl,hg1,_⟩
  ·simp [Value.ownBlock] at hk
  ·have:g=k:=by simpa [Value.ownBlock] using hk
   omega
end
end
section
open Go.RowKit
instance:Inhabited BV:=⟨⟨0,none,0,0⟩⟩
def ze7 (c:BV):Bool:=zda c.len && ((c.n:Int) == c.len / 64)
theorem validV_eq {w:World} {S:Nat->Prop} {c:BV} {b:BitsL} (h:BitsAt w S (.agg (za4 c).toArray) b):ze7 c=zap b:=by
 obtain ⟨s,e,hv⟩:=h;obtain ⟨a,a0,rfl⟩:=hv.slice;have e':(za4 c).toArray=#[Value.int .i64 b.len,.slice a b.words.length a0]:=by simpa using e
 have e2:za4 c=[Value.int .i64 b.len,.slice a b.words.length a0]:=congrArg Array.toList e';simp at e2;unfold ze7 zap;rw [e2.1,e2.2.2.1]
theorem BitsAll.filter {w:World} {S:Nat->Prop}:∀ {C:List BV} {L:List BitsL},BitsAll w S C L->BitsAll w S (C.filter ze7) (L.filter zap):=by
 intro C;induction C with
 | nil =>
  intro L h;have:L=[]:=List.length_eq_zero_iff.1 (by rw [<- h.1];rfl);subst this;exact ⟨rfl,fun n h1 _=>by simp at h1⟩
 | cons c C ih =>
  intro L h;cases L with
  | nil=>have:=h.1;simp at this
  | cons b L =>
   have h0:BitsAt w S (.agg (za4 c).toArray) b:=h.2 0 (by simp) (by simp);have ht:BitsAll w S C L:=⟨by have:=h.1;simpa using this,fun n h1 h2=>h.2 (n+1) (by simpa using h1) (by simpa using h2)⟩
   have e:=validV_eq h0;rw [List.filter_cons,List.filter_cons,e];cases hvb:zap b
   ·simpa using ih ht
   ·simp only [if_true]
    have h2:=ih ht
    refine ⟨by simp [h2.1],fun n h3 h4=>?_⟩
    cases n with
    | zero=>exact h0
    | succ n=>exact h2.2 n (by simpa using h3) (by simpa using h4)
theorem set2_take (l:List Value) (a:Nat) (u v:Value) (h:a+1<l.length):(l.set a u).set (a+1) v=l.take a++[u,v]++l.drop (a+2):=by
 apply List.ext_getElem?;intro k;rw [List.getElem?_set,List.getElem?_set,List.length_set]
 rcases Nat.lt_trichotomy k a with h1 | h1 | h1
 ·rw [if_neg (by omega),if_neg (by omega),List.append_assoc,List.getElem?_append_left (by simp;omega),List.getElem?_take_of_lt h1]
 ·subst h1
  rw [if_neg (by omega),if_pos rfl,if_pos (by omega),List.append_assoc,List.getElem?_append_right (by simp;omega),List.length_take,Nat.min_eq_left (by omega)];simp
 ·rcases Nat.lt_or_ge k (a+2) with h2 | h2
  ·have:k=a+1:=by omega
   subst this;rw [if_pos rfl,if_pos (by omega),List.append_assoc,List.getElem?_append_right (by simp;omega),List.length_take,Nat.min_eq_left (by omega)];simp
  ·rw [if_neg (by omega),if_neg (by omega),List.getElem?_append_right (by simp;omega),List.getElem?_drop]
   congr 1;simp;omega
theorem own_set2 {w:World} {B e n:Nat} {v:Value} {C:List BV} {g:Nat} (h:w.ownsRow B e 2 v n (C.flatMap za4)) (hg:v.ownBlock=some g) (j:Nat) (hj:j<C.length) (x:BV) :
  ((w.setCell ⟨g,j*2,none⟩ (.int .i64 x.len)).setCell ⟨g,j*2+1,none⟩ (.slice x.a x.n x.c)).ownsRow B e 2 v n ((C.set j x).flatMap za4):=by
 have hl:(C.flatMap za4).length=C.length*2:=zd8 (k:=2) (enc:=za4) (fun _=>rfl) C
 have a0:(C.set j x).flatMap za4=((C.flatMap za4).set (j*2) (.int .i64 x.len)).set (j*2+1) (.slice x.a x.n x.c):=by
  rw [flat_setK (k:=2) (enc:=za4) (fun _=>rfl) C j x hj,set2_take _ _ _ _ (by rw [hl];omega),show (j+1)*2=j*2+2 by omega]
 refine ⟨by rw [<- h.1,a0,List.length_set,List.length_set],?_⟩
 rcases h.2 with ⟨hv,_⟩ | ⟨g',cap,cur,hv,hB,hh,h1,h2,h3,h4⟩
 ·rw [hv] at hg;cases hg
 ·rw [hv] at hg
  have a1:g'=g:=by simpa [Value.ownBlock] using hg
  subst a1;refine .inr ⟨g',cap,(cur.setIfInBounds (j*2) (.int .i64 x.len)).setIfInBounds (j*2+1) (.slice x.a x.n x.c),hv,hB,zad (zad hh),h1,h2,by simpa using h3,?_⟩;rw [Array.toList_setIfInBounds,Array.toList_setIfInBounds,List.take_set,List.take_set,h4,a0]
theorem zi4 {b:Nat} {t:TypeId} {fr:Nat × Nat}:∀ (vs:List Value) (o:Nat) (w:World) (cur:Array Value),w.heap[b]?=some (.cells cur t fr) ->
  ∃ cur',(w.setCells b o vs).heap[b]?=some (.cells cur' t fr)/\cur'.size=cur.size/\(∀ q,q<o->cur'[q]?=cur[q]?)/\(∀ k x,k≠b->w.heap[k]?=some x->(w.setCells b o vs).heap[k]?=some x)/\(∀ (B:Nat) (w0:World),B<=b->Below B w0 w->Below B w0 (w.setCells b o vs))
 | [],o,w,cur,h=>⟨cur,h,rfl,fun _ _=>rfl,fun _ _ _ hx=>hx,fun _ _ _ hb=>hb⟩
 | v :: vs,o,w,cur,h=>by
  have h1:(w.setCell ⟨b,o,none⟩ v).heap[b]?=some (.cells (cur.setIfInBounds o v) t fr):=zad (i:=o) (v:=v) h;obtain ⟨cur',e1,e2,e3,e4,e5⟩:=zi4 vs (o+1) _ _ h1
  refine ⟨cur',e1,by rw [e2];simp,fun q hq=>?_,fun k x hk hx=>e4 k x hk (zam (a:=⟨b,o,none⟩) hx hk),fun B w0 hB hb=>e5 B w0 hB (hb.setCell (p:=⟨b,o,none⟩) hB v)⟩
  rw [e3 q (by omega),Array.getElem?_setIfInBounds_ne (by omega)]
theorem run_clear2 {P:Program} (w:World) (t e:TypeId) (z:Value) (ht:P.underlying t=some (.slice e)) (hv:∀ w,(zeroValue e).run P w = .ok z w) (hz:z.cells=#[.int .i64 0,.slice none 0 0]) (b o n c:Nat) (hn:0<n)
  (hc:∀ j,j<n*2->(w.cell? ⟨b,o+j,none⟩).isSome=true) (hf:∀ j,j<n*2->w.frozen? ⟨b,o+j,none⟩=false) :
  ∃ vs:List Value,∀ ty,(Builtin.clear_ #[t] ty #[.slice (some ⟨b,o,none⟩) n c]).run P w = .ok (.tuple #[]) (w.setCells b o vs):=by
 have a0:(Builtin.zeroCells z.cells n).toList.length=n*2:=by rw [hz];simp [Builtin.zeroCells]
 have a1:∀ v∈(Builtin.zeroCells z.cells n).toList,v.oneCell'=true:=by
  rw [hz];intro v a2;simp [Builtin.zeroCells] at a2;obtain ⟨i,_,rfl⟩:=a2;have hi:i % 2=0\/i % 2=1:=by omega
  rcases hi with h | h <;> simp [h] <;> rfl
 have a3:=run_storeCells_cells (P:=P) b o (Builtin.zeroCells z.cells n).toList 0 w (by rw [a0];simpa using hc) (by rw [a0];simpa using hf) a1;simp only [Nat.add_zero] at a3
 refine ⟨(Builtin.zeroCells z.cells n).toList,fun ty=>?_⟩
 obtain ⟨m,rfl⟩:∃ m,n=m+1:=⟨n - 1,by omega⟩;simp [Builtin.clear_,run_underlying ht,hv,a3]
end
section
def insL (x:List UInt8):List (List UInt8)->List (List UInt8)
 | []=>[x]
 | y :: r=>if y<x then y :: insL x r else if y=x then y :: r else x :: y :: r
theorem insL_mem (x z:List UInt8) (L:List (List UInt8)):z∈insL x L ↔ z=x\/z∈L:=by
 induction L with
 | nil=>simp [insL]
 | cons y r ih =>
  unfold insL;by_cases h:y<x
  ·rw [if_pos h,List.mem_cons,ih,List.mem_cons]
   constructor
   ·rintro (h | h | h) <;> simp [h]
   ·rintro (h | h | h) <;> simp [h]
  ·rw [if_neg h]
   by_cases h2:y=x
   ·rw [if_pos h2,List.mem_cons]
    subst h2;constructor
    ·rintro (h | h) <;> simp [h]
    ·rintro (h | h | h) <;> simp [h]
   ·rw [if_neg h2,List.mem_cons,List.mem_cons]
theorem insL_asc (x:List UInt8) (L:List (List UInt8)) (h:L.Pairwise (· < ·)):(insL x L).Pairwise (· < ·):=by
 induction L with
 | nil=>simp [insL]
 | cons y r ih =>
  rw [List.pairwise_cons] at h;unfold insL;by_cases h1:y<x
  ·rw [if_pos h1,List.pairwise_cons]
   refine ⟨fun z hz=>?_,ih h.2⟩
   rcases (insL_mem x z r).1 hz with rfl | hz
   ·exact h1
   ·exact h.1 z hz
  ·rw [if_neg h1]
   by_cases h2:y=x
   ·rw [if_pos h2,List.pairwise_cons];exact h
   ·rw [if_neg h2,List.pairwise_cons,List.pairwise_cons]
    have a0:x<y:=by
     rcases List.le_iff_lt_or_eq.1 (List.not_lt.1 h1) with h3 | h3
     ·exact h3
     ·exact absurd h3.symm h2
    refine ⟨fun z hz=>?_,h⟩
    rcases List.mem_cons.1 hz with rfl | hz
    ·exact a0
    ·exact List.lt_trans a0 (h.1 z hz)
def foldI (L:List (List UInt8)):List (List UInt8):=L.foldl (fun a x=>insL x a) []
theorem zh6 (L:List (List UInt8)) (k:Nat) (hk:k<L.length):foldI (L.take (k+1))=insL L[k] (foldI (L.take k)):=by
 unfold foldI;rw [List.take_succ_eq_append_getElem hk,List.foldl_append];rfl
theorem foldI_is (L:List (List UInt8)):∀ A:List (List UInt8),A.Pairwise (· < ·)->(L.foldl (fun a x=>insL x a) A).Pairwise (· < ·)/\∀ z,z∈L.foldl (fun a x=>insL x a) A ↔ z∈A\/z∈L:=by
 induction L with
 | nil=>intro A h;exact ⟨h,fun z=>by simp⟩
 | cons x L ih =>
  intro A h;obtain ⟨h1,h2⟩:=ih (insL x A) (insL_asc x A h)
  refine ⟨h1,fun z=>?_⟩
  show z∈L.foldl (fun a x=>insL x a) (insL x A) ↔ _
  rw [h2,insL_mem,List.mem_cons];constructor
  ·rintro ((h | h) | h) <;> simp [h]
  ·rintro (h | h | h) <;> simp [h]
theorem foldI_asc (L:List (List UInt8)):(foldI L).Pairwise (· < ·):=(foldI_is L [] List.Pairwise.nil).1
theorem foldI_set (L:List (List UInt8)):foldI L=setL L:=by
 have ha:=foldI_asc L;have hm:=(foldI_is L [] List.Pairwise.nil).2;have hn:(foldI L).Nodup:=ha.imp fun {a b} h e=>by subst e;exact List.lt_irrefl a h
 have hs:(foldI L).mergeSort leB=foldI L:=List.mergeSort_of_pairwise (ha.imp fun {a b} h=>by simpa [leB] using List.le_of_lt h)
 rw [<- hs];exact set_of_perm hn fun z=>by rw [foldI,hm];simp
theorem insL_split (x:List UInt8) (A B:List (List UInt8)) (hA:∀ y∈A,y<x) (hB:∀ y r,B=y :: r->¬ y<x) :
  insL x (A++B)=if B.head?=some x then A++B else A++x :: B:=by
 induction A with
 | nil =>
  cases B with
  | nil=>rfl
  | cons y r =>
   show insL x (y :: r)=_;unfold insL;rw [if_neg (hB y r rfl)];simp only [List.nil_append,List.head?_cons,Option.some.injEq]
 | cons a A ih =>
  show insL x (a :: (A++B))=_;unfold insL;rw [if_pos (hA a (by simp)),ih (fun y hy=>hA y (by simp [hy]))]
  split <;> rfl
theorem insL_len (x:List UInt8) (L:List (List UInt8)):(insL x L).length<=L.length+1:=by
 induction L with
 | nil=>simp [insL]
 | cons y r ih =>
  unfold insL;split
  ·simp;omega
  ·split <;> simp
end
section
open Go.RowKit
attribute [local go_sem] zag zaj
theorem foldI_len (L:List (List UInt8)):∀ A:List (List UInt8),(L.foldl (fun a x=>insL x a) A).length<=A.length+L.length:=by
 induction L with
 | nil=>intro A;simp
 | cons x L ih=>intro A;have:=ih (insL x A);have:=insL_len x A;simp only [List.foldl_cons,List.length_cons];omega
theorem zd9:∀ x:List UInt8,∀ u∈za8 x,u.oneCell'=true:=by intro x u hu;simp [za8] at hu;subst hu;rfl
theorem r1_of {w w':World} {bo oo m co:Nat} {M:List (List UInt8)} (hm:m<=M.length) (h:Vec w zau 1 za8 (.slice (some ⟨bo,oo,none⟩) M.length co) M) (hb:Below w.heap.size w w'):zck w' 1 (.slice (some ⟨bo,oo,none⟩) m co) (M.take m).length ((M.take m).flatMap za8):=by
 have:=Vec.reads_take (k:=1) (enc:=za8) (fun _=>rfl) (h.below hb) m hm
 rwa [List.length_take,Nat.min_eq_left hm]
theorem r2_of {w w':World} {bo oo m co:Nat} {M:List (List UInt8)} (hm:m<=M.length) (h:Vec w zau 1 za8 (.slice (some ⟨bo,oo,none⟩) M.length co) M) (hb:Below w.heap.size w w'):zck w' 1 (.slice (if co=m then some ⟨bo,oo,none⟩ else some ⟨bo,oo+m,none⟩) (M.length - m) (co - m)) (M.drop m).length ((M.drop m).flatMap za8):=by
 have hc:=h.len.2;have:=Vec.reads_drop (enc:=za8) (fun _=>rfl) (h.below hb) m hm (co=m) (fun e=>by omega) (co - m)
 rwa [List.length_drop]
theorem r2_z {w w':World} {bo m co:Nat} {M:List (List UInt8)} (hm:m<=M.length) (h:Vec w zau 1 za8 (.slice (some ⟨bo,0,none⟩) M.length co) M) (hb:Below w.heap.size w w'):zck w' 1 (.slice (if co=m then some ⟨bo,0,none⟩ else some ⟨bo,m,none⟩) (M.length - m) (co - m)) (M.drop m).length ((M.drop m).flatMap za8):=by
 have:=r2_of hm h hb;rwa [Nat.zero_add] at this
theorem r_nil {w w':World} (hb:Below w.heap.size w w'):zck w' 1 (.slice none 0 0) ([]:List (List UInt8)).length (([]:List (List UInt8)).flatMap za8):=⟨none,0,rfl,rfl,fun h=>by simp at h⟩
theorem insL_at {x:List UInt8} {M:List (List UInt8)} (m:Nat) (hm:m<=M.length) (hA:∀ q,q<m->M.getD q []<x) (hB:m<M.length->¬ M.getD m []<x/\M.getD m []≠x):insL x M=M.take m++x :: M.drop m:=by
 have h:=insL_split x (M.take m) (M.drop m) (fun y hy=>by
  obtain ⟨q,hq,rfl⟩:=List.mem_iff_getElem.1 hy;rw [List.length_take] at hq;have:=hA q (by omega);rw [List.getD,List.getElem?_eq_getElem (by omega)] at this
  rw [List.getElem_take];exact this) (fun y r he=>by
  have hl:m<M.length:=by
   have:=congrArg List.length he;rw [List.length_drop,List.length_cons] at this;omega
  rw [List.drop_eq_getElem_cons hl] at he;have:=(hB hl).1;rw [List.getD,List.getElem?_eq_getElem hl] at this
  cases he;exact this)
 rw [List.take_append_drop] at h;rw [h];rw [if_neg];intro he
 rcases Nat.lt_or_ge m M.length with hl | hl
 ·rw [List.drop_eq_getElem_cons hl,List.head?_cons] at he
  have:=(hB hl).2;rw [List.getD,List.getElem?_eq_getElem hl] at this;exact this (Option.some.inj he)
 ·rw [List.drop_eq_nil_of_le hl] at he;simp at he
theorem insL_dup {x:List UInt8} {M:List (List UInt8)} (m:Nat) (hl:m<M.length) (hA:∀ q,q<m->M.getD q []<x) (hB:M.getD m []=x):insL x M=M:=by
 have h:=insL_split x (M.take m) (M.drop m) (fun y hy=>by
  obtain ⟨q,hq,rfl⟩:=List.mem_iff_getElem.1 hy;rw [List.length_take] at hq;have:=hA q (by omega);rw [List.getD,List.getElem?_eq_getElem (by omega)] at this
  rw [List.getElem_take];exact this) (fun y r he=>by
  rw [List.drop_eq_getElem_cons hl] at he;rw [List.getD,List.getElem?_eq_getElem hl] at hB;cases he;have e:M[m]=x:=hB
  rw [e];exact List.lt_irrefl x)
 rw [List.take_append_drop] at h;rw [h,if_pos];rw [List.drop_eq_getElem_cons hl,List.head?_cons];rw [List.getD,List.getElem?_eq_getElem hl] at hB;exact congrArg some hB
theorem rset_any (S:Nat->Prop) (v:Value) (L:List (List UInt8)) (w:World) (h:Vec w S 1 za8 v L) (hn:L.length<=1000000) :
  Calls prog 163 #[v] w fun e w'=>∃ u,e = .returned u/\OwnAt w u (foldI L) w':=by
 obtain ⟨a,cap,rfl⟩:=h.slice;have HV:=zjy h;clear h;go_enter func163,ntmps163
 go_wp2_with fail
 go_loopw [3,4] (fun o i wr=>∃ k:Nat,k<=L.length/\i = .int .i64 k/\OwnAt w o (foldI (L.take k)) wr) (fun _ i _=>L.length - (intOf i).toNat)
 case atStart=>exact ⟨0,by omega,rfl,⟨rfl,.inl ⟨rfl,rfl⟩⟩,Below.refl _ _⟩
 case round =>
  obtain ⟨k,hk,rfl,hO⟩:=hrel;obtain ⟨wu,rfl⟩:∃ wu:World,wu=wr:=⟨_,rfl⟩;obtain ⟨M,hM⟩:=xex (foldI (L.take k));rw [hM] at hO;have hml:M.length<=k:=by rw [<- hM];have:=foldI_len (L.take k) [];have:=List.length_take_le k L;simp only [List.length_nil] at *;unfold foldI;omega
  have HM:=zjy hM;clear hM;have c4:=Vec.owns (S:=zau) (k:=1) (enc:=za8) (L:=M) (fun _=>rfl) hO.1 (fun _ _ _=>trivial)
  have b8:=OwnV.form hO;have c0:=zjy c4;clear c4;have HO:=zjy hO;clear hO;by_cases hlt:k<L.length
  ·have hq:decide ((k:Int)<L.length)=true:=by simp;omega
   obtain ⟨b,off,rfl,_,hb,hc⟩:=zb7 HV.o (by omega);have cx:=(HO.o.2.cell (p:=⟨b,off+k,none⟩) hb).trans (hc k hlt);obtain ⟨x,hx⟩:=xex (L.getD k []);rw [hx] at cx;have HX:=zjy hx;have c3:=zjy (show w.cell? ⟨b,off+k,none⟩=some (zak x) by rw [<- hx];exact hc k hlt);have hi:(k:Int)<(L.length:Int):=by omega
   clear hc hx
   rcases b8 with ⟨rfl,rfl⟩ | ⟨bo,co,rfl,c6,hcm,hbo⟩
   ·go_wp2_with fail
    go_loopw [5] (fun j wr=>j = .int .i64 (0:Nat)/\Below wu.heap.size wu wr) (fun j _=>0)
    case atStart=>exact ⟨rfl,Below.refl _ _⟩
    case round =>
     obtain ⟨rfl,a8⟩:=hrel;have a3:=zjy a8;have zu:=HO.o.2.size;have b9:=(a8.cell (p:=⟨b,off+k,none⟩) (by show b<_;omega)).trans cx;clear a8;go_wp2_with fail
     go_quiet (fail)
     go_wp2_with fail
     go_quiet (fail)
     go_wp2_with fail
     refine zal (fun wN hN=>?_)
     have b4:=zjy (show Below wu.heap.size wu wN by rw [hN];first | exact below_drewN (below_drewN a3.o _) _ | exact below_drewN a3.o _ | exact below_drewN (below_drewN (below_drewN a3.o _) _) _);have a6:=zjy (HO.o.2.trans (b4.o.mono HO.o.2.size));have a2:=(a6.o.cell (p:=⟨b,off+k,none⟩) hb).trans c3.o;have b3:=zjy (c0.o.below b4.o);have zb:b<wN.heap.size:=by have:=a6.o.size;omega
     clear hN b9 cx;refine wp_region_noPanic ?_
     refine zaw (by kernel_rfl) (fun w'=>w'.cell? ⟨b,off+k,none⟩=some (zak x)) 9 ((by simpa using a2)) (fun hHeld=>?_)
     refine t0 0 ?_;refine t0 1 ?_;refine t0 10 ?_;refine t0 11 ?_;refine tK 4 ?_;refine tK 5 ?_;refine tK 6 ?_;refine tK 7 ?_;refine t0 2 ?_;refine t0 12 ?_;have bD:Below wN.heap.size wN wN.drew:=(Below.refl _ _).drew;refine zbf (rs:=[3,8]) (by kernel_rfl) (by simp) ?_
     refine AllReadyK.cons rfl (fun K hK=>?_) (AllReadyK.cons rfl (fun K hK=>?_) AllReadyK.nil)
     focus
      refine zbr (.const (.slice none 0 0)) (.tmp 46) 28 (by rfl) 9 (.string ⟨#[]⟩) 1 16 za8 (fun _=>rfl) zd9 underlying28 zdt rfl (by decide) (by decide) (w0:=wN) (v:=.slice none 0 0) (A:=[]) (B:=([]:List (List UInt8))) (by rfl) (OwnV.nil bD) (by rfl) (r_nil bD) (by first | omega | (simp;done) | (simp;omega)) ?_
      intro v1 w3 a0 _ b7;rw [List.nil_append] at a0
      refine zbc hK ((a0.2.cell (p:=⟨b,off+k,none⟩) zb).trans a2) (fun hHeld=>?_)
      clear hK K;have bB:=(Below.refl w3.heap.size w3).alloc xnl (.cells #[zak x] 9)
      refine xrK 8 rfl fun K hK=>?_
      go_simp;skip
      refine zbc hK (((a0.2.trans (bB.mono a0.2.size)).cell (p:=⟨b,off+k,none⟩) zb).trans a2) (fun hHeld=>?_)
      clear hK K;have a1:=OwnV.below a0 bB;have a5:(w3.alloc (.cells #[zak x] 9)).heap[w3.heap.size]?=some (.cells #[zak x] 9 (0,0)):=zac rfl;clear a0 bB b7
     rotate_left 1
     focus
      go_simp;have bB:=bD.alloc xnl (.cells #[zak x] 9);have b2:(wN.drew.alloc (.cells #[zak x] 9)).heap[wN.heap.size]?=some (.cells #[zak x] 9 (0,0)):=zac rfl
      refine zbc hK ((bB.cell (p:=⟨b,off+k,none⟩) zb).trans a2) (fun hHeld=>?_)
      clear hK K
      refine xrK 3 rfl fun K hK=>?_
      refine zbr (.const (.slice none 0 0)) (.tmp 46) 28 (by rfl) 9 (.string ⟨#[]⟩) 1 16 za8 (fun _=>rfl) zd9 underlying28 zdt rfl (by decide) (by decide) (w0:=wN) (v:=.slice none 0 0) (A:=[]) (B:=([]:List (List UInt8))) (by rfl) (OwnV.nil bB) (by rfl) (r_nil bB) (by first | omega | (simp;done) | (simp;omega)) ?_;intro v1 w3 a1 b1 b6;rw [List.nil_append] at a1
      refine zbc hK ((a1.2.cell (p:=⟨b,off+k,none⟩) zb).trans a2) (fun hHeld=>?_)
      clear hK K;have a5:=b1 _ _ (by simp [Value.ownBlock]) b2;clear b2 bB b1 b6
     all_goals
      have a9:zck _ 1 (.slice (some ⟨_,0,none⟩) 1 1) [x].length ([x].flatMap za8):=za0 a5 rfl
      refine xrK 9 rfl fun K hK=>?_
      refine zbr (.tmp 47) (.tmp 52) 28 (by rfl) 9 (.string ⟨#[]⟩) 1 16 za8 (fun _=>rfl) zd9 underlying28 zdt rfl (by decide) (by decide) (w0:=wN) (v:=v1) (A:=([]:List (List UInt8))) (B:=[x]) (by rfl) (a1) (by rfl) (a9) (by first | omega | (simp;done) | (simp;omega)) ?_;intro v2 w5 a4 _ _
      refine zav hK (by decide) ?_;clear hK K
      refine xrK 13 rfl fun K hK=>?_
      refine zbr (.tmp 53) (.tmp 56) 28 (by rfl) 9 (.string ⟨#[]⟩) 1 16 za8 (fun _=>rfl) zd9 underlying28 zdt rfl (by decide) (by decide) (w0:=wN) (v:=v2) (A:=([]:List (List UInt8))++[x]) (B:=([]:List (List UInt8))) (by rfl) (a4) (by rfl) (r_nil a4.2) (by first | omega | (simp;done) | (simp;omega)) ?_;intro v3 w6 b0 _ _
      refine zav hK (by decide) ?_;clear hK K;have HF:=zjy (b0.rebase a6.o);clear b0 a4 a1 a5 a9 bD
      refine xrK 14 rfl fun K hK=>?_
      go_simp;skip;refine zav hK (by decide) ?_;clear hK K;refine zas (by kernel_rfl) ?_ _;refine NoPanic.normal ?_;go_wp2_with fail
      go_roundw
      case rel=>exact ⟨k+1,by omega,by go_num,by
       have e:=zh6 L k hlt;have b5:L[k]=x:=by rw [<- HX.o,List.getD,List.getElem?_eq_getElem hlt];rfl
       rw [e,HM.o,b5,(show insL x []=List.take 0 []++x :: List.drop 0 [] from rfl),List.append_cons]
       exact HF.o⟩
      case measure=>simp [intOf];omega
   ·have d0:co<=9223372036854775807:=by unfold maxLen at hcm;omega
    clear hcm;go_wp2_with fail
    go_loopw [5] (fun j wr=>∃ m:Nat,m<=M.length/\j = .int .i64 m/\Below wu.heap.size wu wr/\Hid (∀ q,q<m->M.getD q []<x)) (fun j _=>M.length - (intOf j).toNat)
    case atStart=>exact ⟨0,by omega,rfl,Below.refl _ _,zjy fun q hq=>by omega⟩
    case round =>
     obtain ⟨m,hm,rfl,a8,hA⟩:=hrel;have a3:=zjy a8;have zu:=HO.o.2.size;have b9:=(a8.cell (p:=⟨b,off+k,none⟩) (by show b<_;omega)).trans cx;by_cases hml2:m<M.length
     ·have c7:decide ((m:Int)<M.length)=true:=by simp;omega
      have c5:wu.cell? ⟨bo,0+m,none⟩=some (zak (M.getD m [])):=by
       obtain ⟨bo',oo',he,_,_,c6⟩:=zb7 c0.o (by omega);cases he;exact c6 m hml2
      have cy:=(a8.cell (p:=⟨bo,0+m,none⟩) hbo).trans c5;rw [Nat.zero_add] at cy;obtain ⟨y,hy⟩:=xex (M.getD m []);rw [hy] at cy;have HY:=zjy hy;have hi2:(m:Int)<(M.length:Int):=by omega
      have a7:Op.bytesLess y x=decide (y<x):=bytesLess_eq y x;clear c5 hy a8;by_cases hyx:y<x
      ·have hd:Op.bytesLess y x=true:=by rw [a7];simpa using hyx
       have c1:=zjy hyx;clear a7 hyx;go_wp2_with fail
       go_quiet (fail)
       go_wp2_with fail
       go_roundw
       case rel=>exact ⟨m+1,by omega,by go_num,below_drewN a3.o _,zjy fun q hq=>by
        by_cases e:q=m
        ·subst e;rw [HY.o];exact c1.o
        ·exact hA.o q (by omega)⟩
       case measure=>simp [intOf];omega
      ·have hd:Op.bytesLess y x=false:=by rw [a7];simpa using hyx
       have c1:=zjy hyx;clear a7 hyx;go_wp2_with fail
       go_quiet (fail)
       go_wp2_with fail
       by_cases hxy:y=x
       ·have c9:(y == x)=true:=by simpa using hxy
        have c2:=zjy hxy;clear hxy;go_quiet (fail)
        go_wp2_with fail
        go_roundw
        case rel=>exact ⟨k+1,by omega,by go_num,by
         have e:=zh6 L k hlt;have b5:L[k]=x:=by rw [<- HX.o,List.getD,List.getElem?_eq_getElem hlt];rfl
         rw [e,HM.o,b5,insL_dup m hml2 hA.o (by rw [HY.o,c2.o])]
         exact ⟨zfu HO.o.1 (below_drewN a3.o _),HO.o.2.trans ((below_drewN a3.o _).mono HO.o.2.size)⟩⟩
        case measure=>simp [intOf];omega
       ·have c9:(y == x)=false:=by simpa using hxy
        have c2:=zjy hxy;clear hxy;go_quiet (fail)
        go_wp2_with fail
        refine zal (fun wN hN=>?_)
        have b4:=zjy (show Below wu.heap.size wu wN by rw [hN];first | exact below_drewN (below_drewN a3.o _) _ | exact below_drewN a3.o _ | exact below_drewN (below_drewN (below_drewN a3.o _) _) _);have a6:=zjy (HO.o.2.trans (b4.o.mono HO.o.2.size));have a2:=(a6.o.cell (p:=⟨b,off+k,none⟩) hb).trans c3.o;have b3:=zjy (c0.o.below b4.o);have zb:b<wN.heap.size:=by have:=a6.o.size;omega
        clear hN b9 cx;have c8:(m:Int)<=(co:Int):=by omega
        refine wp_region_noPanic ?_
        refine zaw (by kernel_rfl) (fun w'=>w'.cell? ⟨b,off+k,none⟩=some (zak x)) 9 ((by simpa using a2)) (fun hHeld=>?_)
        refine t0 0 ?_;refine t0 1 ?_;refine t0 10 ?_;refine t0 11 ?_;refine tK 4 ?_;refine tK 5 ?_;refine tK 6 ?_;refine tK 7 ?_;refine t0 2 ?_;refine t0 12 ?_;have bD:Below wN.heap.size wN wN.drew:=(Below.refl _ _).drew;refine zbf (rs:=[3,8]) (by kernel_rfl) (by simp) ?_
        refine AllReadyK.cons rfl (fun K hK=>?_) (AllReadyK.cons rfl (fun K hK=>?_) AllReadyK.nil)
        focus
         refine zbr (.const (.slice none 0 0)) (.tmp 46) 28 (by rfl) 9 (.string ⟨#[]⟩) 1 16 za8 (fun _=>rfl) zd9 underlying28 zdt rfl (by decide) (by decide) (w0:=wN) (v:=.slice none 0 0) (A:=[]) (B:=M.take m) (by rfl) (OwnV.nil bD) (by rfl) (r1_of hm b3.o bD) (by first | omega | (simp;done) | (simp;omega)) ?_
         intro v1 w3 a0 _ b7;rw [List.nil_append] at a0
         refine zbc hK ((a0.2.cell (p:=⟨b,off+k,none⟩) zb).trans a2) (fun hHeld=>?_)
         clear hK K;have bB:=(Below.refl w3.heap.size w3).alloc xnl (.cells #[zak x] 9)
         refine xrK 8 rfl fun K hK=>?_
         go_simp;skip
         refine zbc hK (((a0.2.trans (bB.mono a0.2.size)).cell (p:=⟨b,off+k,none⟩) zb).trans a2) (fun hHeld=>?_)
         clear hK K;have a1:=OwnV.below a0 bB;have a5:(w3.alloc (.cells #[zak x] 9)).heap[w3.heap.size]?=some (.cells #[zak x] 9 (0,0)):=zac rfl;clear a0 bB b7
        rotate_left 1
        focus
         go_simp;have bB:=bD.alloc xnl (.cells #[zak x] 9);have b2:(wN.drew.alloc (.cells #[zak x] 9)).heap[wN.heap.size]?=some (.cells #[zak x] 9 (0,0)):=zac rfl
         refine zbc hK ((bB.cell (p:=⟨b,off+k,none⟩) zb).trans a2) (fun hHeld=>?_)
         clear hK K
         refine xrK 3 rfl fun K hK=>?_
         refine zbr (.const (.slice none 0 0)) (.tmp 46) 28 (by rfl) 9 (.string ⟨#[]⟩) 1 16 za8 (fun _=>rfl) zd9 underlying28 zdt rfl (by decide) (by decide) (w0:=wN) (v:=.slice none 0 0) (A:=[]) (B:=M.take m) (by rfl) (OwnV.nil bB) (by rfl) (r1_of hm b3.o bB) (by first | omega | (simp;done) | (simp;omega)) ?_;intro v1 w3 a1 b1 b6;rw [List.nil_append] at a1
         refine zbc hK ((a1.2.cell (p:=⟨b,off+k,none⟩) zb).trans a2) (fun hHeld=>?_)
         clear hK K;have a5:=b1 _ _ (by simp [Value.ownBlock]) b2;clear b2 bB b1 b6
        all_goals
         have a9:zck _ 1 (.slice (some ⟨_,0,none⟩) 1 1) [x].length ([x].flatMap za8):=za0 a5 rfl
         refine xrK 9 rfl fun K hK=>?_
         refine zbr (.tmp 47) (.tmp 52) 28 (by rfl) 9 (.string ⟨#[]⟩) 1 16 za8 (fun _=>rfl) zd9 underlying28 zdt rfl (by decide) (by decide) (w0:=wN) (v:=v1) (A:=M.take m) (B:=[x]) (by rfl) (a1) (by rfl) (a9) (by first | omega | (simp;done) | (simp;omega)) ?_;intro v2 w5 a4 _ _
         refine zav hK (by decide) ?_;clear hK K
         refine xrK 13 rfl fun K hK=>?_
         refine zbr (.tmp 53) (.tmp 56) 28 (by rfl) 9 (.string ⟨#[]⟩) 1 16 za8 (fun _=>rfl) zd9 underlying28 zdt rfl (by decide) (by decide) (w0:=wN) (v:=v2) (A:=M.take m++[x]) (B:=M.drop m) (by rfl) (a4) (by rfl) (r2_z hm b3.o a4.2) (by first | omega | (simp;done) | (simp;omega)) ?_;intro v3 w6 b0 _ _
         refine zav hK (by decide) ?_;clear hK K;have HF:=zjy (b0.rebase a6.o);clear b0 a4 a1 a5 a9 bD
         refine xrK 14 rfl fun K hK=>?_
         go_simp;skip;refine zav hK (by decide) ?_;clear hK K;refine zas (by kernel_rfl) ?_ _;refine NoPanic.normal ?_;go_wp2_with fail
         go_roundw
         case rel=>exact ⟨k+1,by omega,by go_num,by
          have e:=zh6 L k hlt;have b5:L[k]=x:=by rw [<- HX.o,List.getD,List.getElem?_eq_getElem hlt];rfl
          rw [e,HM.o,b5,(insL_at m hm hA.o fun _=>⟨by rw [HY.o];exact c1.o,by rw [HY.o];exact c2.o⟩),List.append_cons]
          exact HF.o⟩
         case measure=>simp [intOf];omega
     ·have c7:decide ((m:Int)<M.length)=false:=by simp;omega
      clear a8;go_wp2_with fail
      go_quiet (fail)
      go_wp2_with fail
      go_quiet (fail)
      go_wp2_with fail
      refine zal (fun wN hN=>?_)
      have b4:=zjy (show Below wu.heap.size wu wN by rw [hN];first | exact below_drewN (below_drewN a3.o _) _ | exact below_drewN a3.o _ | exact below_drewN (below_drewN (below_drewN a3.o _) _) _);have a6:=zjy (HO.o.2.trans (b4.o.mono HO.o.2.size));have a2:=(a6.o.cell (p:=⟨b,off+k,none⟩) hb).trans c3.o;have b3:=zjy (c0.o.below b4.o);have zb:b<wN.heap.size:=by have:=a6.o.size;omega
      clear hN b9 cx;have c8:(m:Int)<=(co:Int):=by omega
      refine wp_region_noPanic ?_
      refine zaw (by kernel_rfl) (fun w'=>w'.cell? ⟨b,off+k,none⟩=some (zak x)) 9 ((by simpa using a2)) (fun hHeld=>?_)
      refine t0 0 ?_;refine t0 1 ?_;refine t0 10 ?_;refine t0 11 ?_;refine tK 4 ?_;refine tK 5 ?_;refine tK 6 ?_;refine tK 7 ?_;refine t0 2 ?_;refine t0 12 ?_;have bD:Below wN.heap.size wN wN.drew:=(Below.refl _ _).drew;refine zbf (rs:=[3,8]) (by kernel_rfl) (by simp) ?_
      refine AllReadyK.cons rfl (fun K hK=>?_) (AllReadyK.cons rfl (fun K hK=>?_) AllReadyK.nil)
      focus
       refine zbr (.const (.slice none 0 0)) (.tmp 46) 28 (by rfl) 9 (.string ⟨#[]⟩) 1 16 za8 (fun _=>rfl) zd9 underlying28 zdt rfl (by decide) (by decide) (w0:=wN) (v:=.slice none 0 0) (A:=[]) (B:=M.take m) (by rfl) (OwnV.nil bD) (by rfl) (r1_of hm b3.o bD) (by first | omega | (simp;done) | (simp;omega)) ?_
       intro v1 w3 a0 _ b7;rw [List.nil_append] at a0
       refine zbc hK ((a0.2.cell (p:=⟨b,off+k,none⟩) zb).trans a2) (fun hHeld=>?_)
       clear hK K;have bB:=(Below.refl w3.heap.size w3).alloc xnl (.cells #[zak x] 9)
       refine xrK 8 rfl fun K hK=>?_
       go_simp;skip
       refine zbc hK (((a0.2.trans (bB.mono a0.2.size)).cell (p:=⟨b,off+k,none⟩) zb).trans a2) (fun hHeld=>?_)
       clear hK K;have a1:=OwnV.below a0 bB;have a5:(w3.alloc (.cells #[zak x] 9)).heap[w3.heap.size]?=some (.cells #[zak x] 9 (0,0)):=zac rfl;clear a0 bB b7
      rotate_left 1
      focus
       go_simp;have bB:=bD.alloc xnl (.cells #[zak x] 9);have b2:(wN.drew.alloc (.cells #[zak x] 9)).heap[wN.heap.size]?=some (.cells #[zak x] 9 (0,0)):=zac rfl
       refine zbc hK ((bB.cell (p:=⟨b,off+k,none⟩) zb).trans a2) (fun hHeld=>?_)
       clear hK K
       refine xrK 3 rfl fun K hK=>?_
       refine zbr (.const (.slice none 0 0)) (.tmp 46) 28 (by rfl) 9 (.string ⟨#[]⟩) 1 16 za8 (fun _=>rfl) zd9 underlying28 zdt rfl (by decide) (by decide) (w0:=wN) (v:=.slice none 0 0) (A:=[]) (B:=M.take m) (by rfl) (OwnV.nil bB) (by rfl) (r1_of hm b3.o bB) (by first | omega | (simp;done) | (simp;omega)) ?_;intro v1 w3 a1 b1 b6;rw [List.nil_append] at a1
       refine zbc hK ((a1.2.cell (p:=⟨b,off+k,none⟩) zb).trans a2) (fun hHeld=>?_)
       clear hK K;have a5:=b1 _ _ (by simp [Value.ownBlock]) b2;clear b2 bB b1 b6
      all_goals
       have a9:zck _ 1 (.slice (some ⟨_,0,none⟩) 1 1) [x].length ([x].flatMap za8):=za0 a5 rfl
       refine xrK 9 rfl fun K hK=>?_
       refine zbr (.tmp 47) (.tmp 52) 28 (by rfl) 9 (.string ⟨#[]⟩) 1 16 za8 (fun _=>rfl) zd9 underlying28 zdt rfl (by decide) (by decide) (w0:=wN) (v:=v1) (A:=M.take m) (B:=[x]) (by rfl) (a1) (by rfl) (a9) (by first | omega | (simp;done) | (simp;omega)) ?_;intro v2 w5 a4 _ _
       refine zav hK (by decide) ?_;clear hK K
       refine xrK 13 rfl fun K hK=>?_
       refine zbr (.tmp 53) (.tmp 56) 28 (by rfl) 9 (.string ⟨#[]⟩) 1 16 za8 (fun _=>rfl) zd9 underlying28 zdt rfl (by decide) (by decide) (w0:=wN) (v:=v2) (A:=M.take m++[x]) (B:=M.drop m) (by rfl) (a4) (by rfl) (r2_z hm b3.o a4.2) (by first | omega | (simp;done) | (simp;omega)) ?_;intro v3 w6 b0 _ _
       refine zav hK (by decide) ?_;clear hK K;have HF:=zjy (b0.rebase a6.o);clear b0 a4 a1 a5 a9 bD
       refine xrK 14 rfl fun K hK=>?_
       go_simp;skip;refine zav hK (by decide) ?_;clear hK K;refine zas (by kernel_rfl) ?_ _;refine NoPanic.normal ?_;go_wp2_with fail
       go_roundw
       case rel=>exact ⟨k+1,by omega,by go_num,by
        have e:=zh6 L k hlt;have b5:L[k]=x:=by rw [<- HX.o,List.getD,List.getElem?_eq_getElem hlt];rfl
        rw [e,HM.o,b5,(insL_at m hm hA.o fun h=>absurd h hml2),List.append_cons]
        exact HF.o⟩
       case measure=>simp [intOf];omega
  ·have hq:decide ((k:Int)<L.length)=false:=by simp;omega
   rw [List.take_of_length_le (by omega)] at HM;go_wp2_with fail
   go_ret;exact ⟨_,rfl,by rw [HM.o];exact HO.o⟩
end
section
open Go.RowKit
attribute [local go_sem] zag zaj
def idxG {α:Type} (p:α->Bool):Nat->List α->Int
 | _,[]=>-1
 | i,x :: l=>bif p x then (i:Int) else idxG p (i+1) l
theorem idxG_any {α:Type} (p:α->Bool) (L:List α):∀ i:Nat,decide (0<=idxG p i L)=L.any p:=by
 induction L with
 | nil=>intro i;rfl
 | cons x l ih =>
  intro i;unfold idxG;rw [List.any_cons];cases p x
  ·simpa using ih (i+1)
  ·simp
instance:Inhabited zc2:=⟨([],0)⟩
def zg9 (d:zc2):Bool:=decide (d.2<1) || decide (1048576<d.2)
def ascE (D:List zc2) (i:Nat):Bool:=decide ((D.getD i default).1<(D.getD (i+1) default).1)
def ascD (D:List zc2):Bool:=(List.range (D.length - 1)).all (ascE D)
def zbh (D:List zc2):Int:=if 64<D.length then 1 else if ascD D=false then 12 else if D.any zg9=true then 2 else 0
theorem badEn_any (d:zc2) (w:World):Calls prog 147 #[.agg #[zak d.1,.int .i64 d.2]] w fun e w'=>e = .returned (.bool (zg9 d))/\Below w.heap.size w w':=by
 obtain ⟨t,c⟩:=d;unfold zg9;dsimp only;obtain ⟨b1,h1⟩:=xex (decide (c<1));obtain ⟨b2,h2⟩:=xex (decide (1048576<c));rw [h1,h2];cases b1
 ·go_enter func147,ntmps147
  go_wp2_with fail
  go_ret;exact ⟨by simp,(Below.refl _ _).alloc xnl _⟩
 ·go_enter func147,ntmps147
  go_wp2_with fail
  go_ret;exact ⟨by simp,(Below.refl _ _).alloc xnl _⟩
theorem enidx_any (S:Nat->Prop) (v:Value) (L:List zc2) (w:World) (h:Vec w S 2 zd1 v L) (hn:L.length<=1000000) :
  Calls prog 196 #[v,.func (.func 147) #[] #[]] w fun e w'=>e = .returned (.int .i64 (idxG zg9 0 L))/\Below w.heap.size w w':=by
 obtain ⟨a,cap,rfl⟩:=h.slice;have HV:=zjy h;clear h;obtain ⟨r,hr⟩:=xex (idxG zg9 0 L);rw [hr];have HR:=zjy hr;clear hr;go_enter func196,ntmps196
 go_wp2_with fail
 go_loopw [8] (fun i wr=>∃ k:Nat,i = .int .i64 k/\k<=L.length/\Hid (idxG zg9 k (L.drop k)=r)/\Below w.heap.size w wr) (fun i _=>L.length - (intOf i).toNat)
 case atStart=>exact ⟨0,rfl,by omega,zjy HR.o,Below.refl _ _⟩
 case round =>
  obtain ⟨k,rfl,hk,HT,a3⟩:=hrel;have HB:=zjy a3;clear a3;by_cases hlt:k<L.length
  ·have hq:decide ((k:Int)<L.length)=true:=by simp;omega
   have a2:(k:Int)<(L.length:Int):=by omega
   obtain ⟨b,off,e,lb,hc⟩:=(HV.o.below HB.o).get k hlt;cases e;have c0:=hc 0 _ rfl;have c1:=hc 1 _ rfl;have ht:=HT.o;rw [List.drop_eq_getElem_cons hlt] at ht;obtain ⟨⟨xt,xc⟩,hx⟩:∃ x,L[k]=x:=⟨_,rfl⟩;rw [hx] at c0 c1 ht;rw [Nat.add_zero] at c0;dsimp only at c0 c1;clear HT hx hc;unfold idxG at ht;cases hp:zg9 (xt,xc)
   ·rw [hp] at ht
    have HT:=zjy (show idxG zg9 (k+1) (L.drop (k+1))=r from ht);have HP:=zjy hp;clear ht hp;go_wp2_with fail
    refine (badEn_any (xt,xc) _).mono ?_;rw [HP.o];rintro e w1 ⟨rfl,hb⟩;have a1:=xhh HB hb;clear hb;go_wp2_with fail
    go_roundw
    case rel=>exact ⟨k+1,by go_num,by omega,HT,a1.o⟩
    case measure=>simp [intOf];omega
   ·rw [hp] at ht
    have a0:=zjy (show Ending.returned (.int .i64 (k:Int))=Ending.returned (.int .i64 r) by rw [show (k:Int)=r from ht]);have HP:=zjy hp;clear ht hp;go_wp2_with fail
    refine (badEn_any (xt,xc) _).mono ?_;rw [HP.o];rintro e w1 ⟨rfl,hb⟩;have a1:=xhh HB hb;clear hb;go_wp2_with fail
    go_ret;exact ⟨a0.o,a1.o⟩
  ·have hq:decide ((k:Int)<L.length)=false:=by simp;omega
   have ht:=HT.o;rw [List.drop_eq_nil_of_le (by omega)] at ht;have a0:=zjy (show Ending.returned (.int .i64 (-1:Int))=Ending.returned (.int .i64 r) by rw [show (-1:Int)=r from ht]);clear HT ht;go_wp2_with fail
   go_ret;exact ⟨a0.o,HB.o⟩
theorem encont_any (S:Nat->Prop) (v:Value) (L:List zc2) (w:World) (h:Vec w S 2 zd1 v L) (hn:L.length<=1000000) :
  Calls prog 146 #[v,.func (.func 147) #[] #[]] w fun e w'=>e = .returned (.bool (L.any zg9))/\Below w.heap.size w w':=by
 rw [<- idxG_any zg9 L 0];obtain ⟨a,cap,rfl⟩:=h.slice;have HV:=zjy h;clear h;go_enter func146,ntmps146
 go_wp2_with fail
 refine (enidx_any S _ L _ HV.o hn).mono ?_;rintro e w1 ⟨rfl,hb⟩;have HB:=zjy hb;clear hb;go_wp2_with fail
 go_ret;exact ⟨rfl,HB.o⟩
theorem ascD_all {D:List zc2} (h:∀ j,j+1<D.length->ascE D j=true):ascD D=true:=by
 unfold ascD;rw [List.all_eq_true];intro j hj;rw [List.mem_range] at hj;exact h j (by omega)
theorem ascD_no {D:List zc2} {j:Nat} (hj:j+1<D.length) (h:ascE D j=false):ascD D=false:=by
 unfold ascD;rw [List.all_eq_false];exact ⟨j,by rw [List.mem_range];omega,by simp [h]⟩
theorem acheck_any (S:Nat->Prop) (v:Value) (D:List zc2) (w:World) (h:Vec w S 2 zd1 v D) (hn:D.length<=1000000) :
  Calls prog 104 #[v] w fun e w'=>e = .returned (.int .i64 (zbh D))/\Below w.heap.size w w':=by
 obtain ⟨a,cap,rfl⟩:=h.slice;have HV:=zjy h;clear h;obtain ⟨n,a5⟩:=xex (D.length);have HN:=zjy a5;rw [a5] at hn HV ⊢;have HF:=zjy (show ∀ r:Int,zbh D=r->Ending.returned (.int .i64 r) = .returned (.int .i64 (zbh D)) from fun r h=>by rw [h])
 clear a5;by_cases h64:64<n
 ·have d0:decide ((64:Int)<n)=true:=by simp;omega
  go_enter func104,ntmps104
  go_wp2_with fail
  go_ret;exact ⟨HF.o _ (by unfold zbh;rw [if_pos (by rw [HN.o];exact h64)]),Below.refl _ _⟩
 have d0:decide ((64:Int)<n)=false:=by simp;omega
 go_enter func104,ntmps104
 go_wp2_with fail
 go_loopw [10] (fun i wr=>∃ k:Nat,i = .int .i64 k/\k<=n/\Hid (∀ j,j+1<k->ascE D j=true)/\Below w.heap.size w wr) (fun i _=>n - (intOf i).toNat)
 case atStart=>exact ⟨0,rfl,by omega,zjy (fun j hj=>by omega),Below.refl _ _⟩
 case round =>
  obtain ⟨k,rfl,hk,HA,a2⟩:=hrel;obtain ⟨WR,b3⟩:∃ u,u=wr:=⟨_,rfl⟩;subst b3;have HB:=zjy a2;by_cases hlt:k<n
  ·have hq:decide ((k:Int)<n)=true:=by simp;omega
   have a3:k<D.length:=by rw [HN.o];exact hlt
   obtain ⟨b,off,e,lb,hc⟩:=(HV.o.below a2).get k a3;cases e;have c0:=hc 0 _ rfl;have c1:=hc 1 _ rfl;obtain ⟨⟨xt,xc⟩,hx⟩:∃ x,D[k]=x:=⟨_,rfl⟩;rw [hx] at c0 c1;rw [Nat.add_zero] at c0;dsimp only at c0 c1;have HX:=zjy hx;clear hc hx
   rcases Nat.eq_zero_or_pos k with hk0 | hpos
   ·have e1:decide ((0:Int)<(k:Int))=false:=by simp;omega
    have e1n:decide (0<k)=false:=by simp;omega
    have b4:=zjy hk0;clear a2 hk0;go_wp2_with fail
    go_quiet (fail)
    go_wp2_with fail
    go_roundw
    case rel=>exact ⟨k+1,by go_num,by omega,zjy (fun j hj=>by have:=b4.o;omega),below_drewN ((HB.o.alloc HB.o.size _)) _⟩
    case measure=>simp [intOf];omega
   ·obtain ⟨p,rfl⟩:∃ p,k=p+1:=⟨k - 1,by omega⟩
    have a7:p<D.length:=by omega
    obtain ⟨b2,b1,e2,lb2,a8⟩:=(HV.o.below a2).get p a7;cases e2;have q0:=a8 0 _ rfl;obtain ⟨⟨yt,yc⟩,hy⟩:∃ x,D[p]=x:=⟨_,rfl⟩;rw [hy] at q0;rw [Nat.add_zero] at q0;dsimp only at q0;have e1:decide ((0:Int)<((p+1:Nat):Int))=true:=by first | (simp;done) | (simp;omega)
    have hwr:IntKind.i64.wrap (((p+1:Nat):Int) - 1)=(p:Int):=by rw [IntKind.wrap_i64];omega
    have hpn:(p:Int)<(n:Int):=by omega
    have a0:Op.bytesLess yt xt=decide (yt<xt):=bytesLess_eq yt xt
    have a4:ascE D p=decide (yt<xt):=by
     unfold ascE;rw [List.getD,List.getElem?_eq_getElem a7,List.getD,List.getElem?_eq_getElem a3,HX.o,hy];rfl
    have a1:=zjy a4;clear a8 hy a4 a2;by_cases hyx:yt<xt
    ·have hd:Op.bytesLess yt xt=true:=by rw [a0];simpa using hyx
     have HT:=zjy (show ∀ j,j+1<p+1+1->ascE D j=true from fun j hj=>by
      by_cases ej:j=p
      ·rw [ej,a1.o];simpa using hyx
      ·exact HA.o j (by omega))
     clear a0 hyx a1;go_wp2_with fail
     go_quiet (fail)
     go_wp2_with fail
     go_roundw
     case rel=>exact ⟨p+1+1,by go_num,by omega,HT,below_drewN ((HB.o.alloc HB.o.size _)) _⟩
     case measure=>simp [intOf];omega
    ·have hd:Op.bytesLess yt xt=false:=by rw [a0];simpa using hyx
     have HT:=zjy (show zbh D=12 by
      unfold zbh
      rw [if_neg (by rw [HN.o];exact h64),if_pos (ascD_no (j:=p) (by omega) (by rw [a1.o];simpa using hyx))])
     clear a0 hyx a1;go_wp2_with fail
     go_quiet (fail)
     go_wp2_with fail
     go_ret;exact ⟨HF.o _ HT.o,below_drewN ((HB.o.alloc HB.o.size _)) _⟩
  ·have hq:decide ((k:Int)<n)=false:=by simp;omega
   have HT:=zjy (show ascD D=true from ascD_all fun j hj=>HA.o j (by rw [HN.o] at hj;omega))
   obtain ⟨bb,a9⟩:=xex (D.any zg9);have a6:=zjy a9;clear a2 a9;go_wp2_with fail
   refine (encont_any S _ D _ (by have:=HV.o.below HB.o;exact this) (by rw [HN.o];exact hn)).mono ?_;rw [a6.o];rintro e w2 ⟨rfl,hb⟩;have b0:=xhh HB hb;clear hb;cases bb
   ·go_wp2_with fail
    go_ret;exact ⟨HF.o _ (by unfold zbh;rw [if_neg (by rw [HN.o];exact h64),if_neg (by rw [HT.o];simp),if_neg (by rw [a6.o];simp)]),b0.o⟩
   ·go_wp2_with fail
    go_ret;exact ⟨HF.o _ (by unfold zbh;rw [if_neg (by rw [HN.o];exact h64),if_neg (by rw [HT.o];simp),if_pos a6.o]),b0.o⟩
end
section
open Go.RowKit
def notV (b:BitsL):Bool:=!zap b
theorem notV_any (S:Nat->Prop) (v:Value) (b:BitsL) (w:World) (h:BitsAt w S v b) (hi:InI b.len) :
  Calls prog 109 #[v] w fun e w'=>e = .returned (.bool (notV b))/\Below w.heap.size w w':=by
 obtain ⟨s,rfl,hv⟩:=h;obtain ⟨a,cap,rfl⟩:=hv.slice;have HV:=zjy hv;clear hv;unfold notV;obtain ⟨vb,a1⟩:=xex (zap b);rw [a1];have a2:=zjy a1;clear a1;go_enter func109,ntmps109
 go_wp2_with fail
 refine zah (fun W hW=>?_)
 have a0:=xal hW
 clear hW;refine (zfq S _ b W ⟨_,rfl,HV.o.below a0⟩ hi.1 hi.2).mono ?_;rw [a2.o];rintro e w1 ⟨rfl,hb⟩;have HB:=zjy (a0.trans (hb.mono a0.size));clear hb a0;go_wp2_with fail
 go_ret;exact ⟨rfl,HB.o⟩
theorem bidxN_any (S:Nat->Prop) (v:Value) (L:List BitsL) (w:World) (h:BitsVec w S v L) (hi:∀ b∈L,InI b.len) (hn:L.length<=1000000) :
  Calls prog 148 #[v,.func (.func 109) #[] #[]] w fun e w'=>e = .returned (.int .i64 (idxG notV 0 L))/\Below w.heap.size w w':=by
 obtain ⟨a,cap,rfl⟩:=h.slice;have HV:=zjy h;have HI:=zjy hi;clear h hi;obtain ⟨r,hr⟩:=xex (idxG notV 0 L);rw [hr];have HR:=zjy hr;clear hr;go_enter func148,ntmps148
 go_wp2_with fail
 go_loopw [8] (fun i wr=>∃ k:Nat,i = .int .i64 k/\k<=L.length/\Hid (idxG notV k (L.drop k)=r)/\Below w.heap.size w wr) (fun i _=>L.length - (intOf i).toNat)
 case atStart=>exact ⟨0,rfl,by omega,zjy HR.o,Below.refl _ _⟩
 case round =>
  obtain ⟨k,rfl,hk,HT,a5⟩:=hrel;have HB:=zjy a5;clear a5;by_cases hlt:k<L.length
  ·have hq:decide ((k:Int)<L.length)=true:=by simp;omega
   have a4:(k:Int)<(L.length:Int):=by omega
   have HW:=zjy (HV.o.below HB.o);obtain ⟨b,off,c,rfl,lb,c0,c1,a0⟩:=HW.o.at k hlt;have ht:=HT.o;rw [List.drop_eq_getElem_cons hlt] at ht;have a1:=HI.o _ (List.getElem_mem hlt);rw [zbb _ _ hlt] at a0;obtain ⟨x,hx⟩:=xex (L[k]);rw [hx] at a0 ht a1;obtain ⟨cl,cA,cn,cc⟩:=c;have a7:=zjy a0;have a6:=zjy a1;dsimp only at c0 c1;clear HT hx a0 a1;unfold idxG at ht;cases hp:notV x
   ·rw [hp] at ht
    have HT:=zjy (show idxG notV (k+1) (L.drop (k+1))=r from ht);have HP:=zjy hp;clear ht hp;go_wp2_with fail
    refine (notV_any S _ x _ a7.o a6.o).mono ?_;rw [HP.o];rintro e w1 ⟨rfl,hb⟩;have a3:=xhh HB hb;clear hb;go_wp2_with fail
    go_roundw
    case rel=>exact ⟨k+1,by go_num,by omega,HT,a3.o⟩
    case measure=>simp [intOf];omega
   ·rw [hp] at ht
    have a2:=zjy (show Ending.returned (.int .i64 (k:Int))=Ending.returned (.int .i64 r) by rw [show (k:Int)=r from ht]);have HP:=zjy hp;clear ht hp;go_wp2_with fail
    refine (notV_any S _ x _ a7.o a6.o).mono ?_;rw [HP.o];rintro e w1 ⟨rfl,hb⟩;have a3:=xhh HB hb;clear hb;go_wp2_with fail
    go_ret;exact ⟨a2.o,a3.o⟩
  ·have hq:decide ((k:Int)<L.length)=false:=by simp;omega
   have ht:=HT.o;rw [List.drop_eq_nil_of_le (by omega)] at ht;have a2:=zjy (show Ending.returned (.int .i64 (-1:Int))=Ending.returned (.int .i64 r) by rw [show (-1:Int)=r from ht]);clear HT ht;go_wp2_with fail
   go_ret;exact ⟨a2.o,HB.o⟩
theorem idxG_split {α:Type} (p:α->Bool) (L:List α):∀ i:Nat,(idxG p i L = -1/\∀ x∈L,p x=false)\/∃ k:Nat,idxG p i L=((i+k:Nat):Int)/\∃ h:k<L.length,p L[k]=true/\∀ x∈L.take k,p x=false:=by
 induction L with
 | nil=>intro i;exact .inl ⟨rfl,fun x hx=>by simp at hx⟩
 | cons y L ih =>
  intro i;cases hp:p y
  ·rcases ih (i+1) with ⟨h1,h2⟩ | ⟨k,h1,h2,h3,h4⟩
   ·refine .inl ⟨by unfold idxG;rw [hp];exact h1,fun x hx=>?_⟩
    rcases List.mem_cons.1 hx with rfl | hx
    ·exact hp
    ·exact h2 x hx
   ·refine .inr ⟨k+1,by unfold idxG;rw [hp];show idxG p (i+1) L=_;rw [h1];congr 1;omega,by simpa using h2,by simpa using h3,fun x hx=>?_⟩
    rw [List.take_succ_cons] at hx
    rcases List.mem_cons.1 hx with rfl | hx
    ·exact hp
    ·exact h4 x hx
  ·exact .inr ⟨0,by unfold idxG;rw [hp];simp,by simp,by simpa using hp,fun x hx=>by simp at hx⟩
structure DelAt (w0 w:World) (g cap:Nat) (C D:List BV) (i j:Nat) (wr:World):Prop where
 own:wr.ownsRow w0.heap.size 56 2 (.slice (some ⟨g,0,none⟩) C.length cap) C.length (D.flatMap za4)
 b:Below w0.heap.size w0 wr
 len:D.length=C.length
 head:D.take i=(C.take j).filter ze7
 tail:D.drop j=C.drop j
 ij:i<=j
 keep:∀ k o,k≠g->w.heap[k]?=some o->wr.heap[k]?=some o
 size:w.heap.size<=wr.heap.size
theorem DelAt.below {w0 w:World} {g cap:Nat} {C D:List BV} {i j:Nat} {wr wx:World} (h:DelAt w0 w g cap C D i j wr) (hb:Below wr.heap.size wr wx):DelAt w0 w g cap C D i j wx :=
 ⟨zcf h.own hb,h.b.trans (hb.mono h.b.size),h.len,h.head,h.tail,h.ij,fun k o hk ho=>zab hb (zaa (h.keep k o hk ho)) (h.keep k o hk ho),Nat.le_trans h.size hb.size⟩
theorem DelAt.skip {w0 w:World} {g cap:Nat} {C D:List BV} {i j:Nat} {wr:World} (h:DelAt w0 w g cap C D i j wr) (hj:j<C.length) (hv:ze7 C[j]=false):DelAt w0 w g cap C D i (j+1) wr:=by
 refine ⟨h.own,h.b,h.len,?_,?_,by have:=h.ij;omega,h.keep,h.size⟩
 ·rw [h.head,List.take_succ_eq_append_getElem hj,List.filter_append];simp [hv]
 ·have:=congrArg List.tail h.tail
  rwa [List.tail_drop,List.tail_drop] at this
theorem DelAt.elem {w0 w:World} {g cap:Nat} {C D:List BV} {i j:Nat} {wr:World} (h:DelAt w0 w g cap C D i j wr) (hj:j<C.length) (hjD:j<D.length):D[j]=C[j]:=by
 have h1:=congrArg (fun l=>l[0]?) h.tail
 simp only [List.getElem?_drop,Nat.add_zero] at h1;rw [List.getElem?_eq_getElem hjD,List.getElem?_eq_getElem hj] at h1;exact Option.some.inj h1
theorem DelAt.put {w0 w:World} {g cap:Nat} {C D:List BV} {i j:Nat} {wr:World} (h:DelAt w0 w g cap C D i j wr) (hj:j<C.length) (hv:ze7 C[j]=true) (hi:i<j) :
  DelAt w0 w g cap C (D.set i C[j]) (i+1) (j+1) ((wr.setCell ⟨g,i*2,none⟩ (.int .i64 C[j].len)).setCell ⟨g,i*2+1,none⟩ (.slice C[j].a C[j].n C[j].c)):=by
 have a0:i<D.length:=by rw [h.len];omega
 have a1:w0.heap.size<=g:=(World.ownsRow.lt h.own g rfl).1
 refine ⟨own_set2 h.own rfl i a0 C[j],(h.b.setCell (p:=⟨g,i*2,none⟩) a1 _).setCell (p:=⟨g,i*2+1,none⟩) a1 _,by rw [List.length_set];exact h.len,?_,?_,by omega,fun k o hk ho=>zam (zam (h.keep k o hk ho) hk) hk,by simpa [World.setCell] using h.size⟩
 ·rw [List.take_succ_eq_append_getElem (by rw [List.length_set];exact a0),List.getElem_set_self,List.take_set_of_le (Nat.le_refl i),h.head,List.take_succ_eq_append_getElem hj,List.filter_append]
  simp [hv]
 ·rw [List.drop_set_of_lt (by omega)]
  have:=congrArg List.tail h.tail;rwa [List.tail_drop,List.tail_drop] at this
end
end Go.Proofs.YtgkaafncfjlooaaGreatDoor
