/- Parts of one proof: SipA, AppendNil, OwnV, SipB, MakeQ, SipC, BitsA, CmpPlain, SchJ, AtkCount, AtkPlain, Ref18Plain, BlkMap, Splice, AddPlain, BRow, CellOne, BloomA, BloomB, MakeS, MakeT, Dress, DeckPlain, MakeU. -/
import Derived.Test.YtgkaafncfjlooaaGreatDoorPartAd2
import Derived.Deep.AppendLies
import Derived.Deep.RegionLaw
import Derived.Lib.AppendStr
import Derived.Deep.OwnRows
import Derived.MapKept
import Derived.WideMake
import Derived.Laws.CopyRow
import Derived.Deep.DeepCutAuto
set_option maxHeartbeats 16000000
set_option maxRecDepth 100000
open Go.Proofs.Tryz
set_option linter.unusedSimpArgs false
set_option linter.unusedVariables false
namespace Go.Proofs.YtgkaafncfjlooaaGreatDoor
section
open Go.RowKit
abbrev sipC (s:Sip):Array Value:=#[.int .u64 s.a,.int .u64 s.b,.int .u64 s.c,.int .u64 s.d]
theorem rot13 (x:Int) (w:World):Calls prog 281 #[.int .u64 x,.int .i64 13] w fun e w'=>e = .returned (.int .u64 (ziw 8192 2251799813685248 x))∧w = w':=by
 have hb:bits .and .u64 13 63 = 13:=by decide +kernel
 go_enter func281,ntmps281
 go_wp2
 go_ret;exact ⟨rfl,rfl⟩
theorem rot32 (x:Int) (w:World):Calls prog 281 #[.int .u64 x,.int .i64 32] w fun e w'=>e = .returned (.int .u64 (ziw 4294967296 4294967296 x))∧w = w':=by
 have hb:bits .and .u64 32 63 = 32:=by decide +kernel
 go_enter func281,ntmps281
 go_wp2
 go_ret;exact ⟨rfl,rfl⟩
theorem rot16 (x:Int) (w:World):Calls prog 281 #[.int .u64 x,.int .i64 16] w fun e w'=>e = .returned (.int .u64 (ziw 65536 281474976710656 x))∧w = w':=by
 have hb:bits .and .u64 16 63 = 16:=by decide +kernel
 go_enter func281,ntmps281
 go_wp2
 go_ret;exact ⟨rfl,rfl⟩
theorem rot21 (x:Int) (w:World):Calls prog 281 #[.int .u64 x,.int .i64 21] w fun e w'=>e = .returned (.int .u64 (ziw 2097152 8796093022208 x))∧w = w':=by
 have hb:bits .and .u64 21 63 = 21:=by decide +kernel
 go_enter func281,ntmps281
 go_wp2
 go_ret;exact ⟨rfl,rfl⟩
theorem rot17 (x:Int) (w:World):Calls prog 281 #[.int .u64 x,.int .i64 17] w fun e w'=>e = .returned (.int .u64 (ziw 131072 140737488355328 x))∧w = w':=by
 have hb:bits .and .u64 17 63 = 17:=by decide +kernel
 go_enter func281,ntmps281
 go_wp2
 go_ret;exact ⟨rfl,rfl⟩
theorem zak {w:World} {b:Nat} {x y z u:Value} {t:TypeId} {fr:Nat × Nat} (h:w.heap[b]? = some (.cells #[x,y,z,u] t fr)) :
  w.cell? ⟨b,0,none⟩ = some x∧w.cell? ⟨b,1,none⟩ = some y∧w.cell? ⟨b,2,none⟩ = some z∧w.cell? ⟨b,3,none⟩ = some u:=by
 refine ⟨?_,?_,?_,?_⟩ <;> (rw [cell_of_row _ _ _ _ _ _ h]; rfl)
theorem freeS {w:World} {b:Nat} {cs:Array Value} {t:TypeId} (h:w.heap[b]? = some (.cells cs t (0,0))) :
  w.frozen? ⟨b,0,none⟩ = false∧w.frozen? ⟨b,1,none⟩ = false∧w.frozen? ⟨b,2,none⟩ = false∧w.frozen? ⟨b,3,none⟩ = false:=⟨frozen_of_row _ _ _ _ _ h,frozen_of_row _ _ _ _ _ h,frozen_of_row _ _ _ _ _ h,frozen_of_row _ _ _ _ _ h⟩
def SipAt (w:World) (b:Nat) (s:Sip) (w':World):Prop:=w'.heap[b]? = some (.cells (sipC s) 277 (0,0))∧w.grownBy w' (some b)
theorem SipAt.read {w w':World} {b:Nat} {s:Sip} (h:SipAt w b s w'):(w'.cell? ⟨b,0,none⟩ = some (.int .u64 s.a)∧w'.cell? ⟨b,1,none⟩ = some (.int .u64 s.b)∧w'.cell? ⟨b,2,none⟩ = some (.int .u64 s.c)∧w'.cell? ⟨b,3,none⟩ = some (.int .u64 s.d)) ∧
  (w'.frozen? ⟨b,0,none⟩ = false∧w'.frozen? ⟨b,1,none⟩ = false∧w'.frozen? ⟨b,2,none⟩ = false∧w'.frozen? ⟨b,3,none⟩ = false):=⟨zak h.1,freeS h.1⟩
theorem SipAt.set {w w':World} {b i:Nat} {s s':Sip} {v:Value} {n:Nat} (h:SipAt w b s w') (e:(sipC s).setIfInBounds i v = sipC s'):SipAt w b s' ((w'.drewN n).setCell ⟨b,i,none⟩ v) :=
 ⟨by rw [← e]; exact zad h.1,zcw (zfp h.2 n)⟩
theorem zcf {K:Act→World→Prop} {Q:Exit→Act→World→Prop} {x:Exit} {a:Act} {W:World} (h:∀ w',w' = W→Exit.then K Q x a w'):Exit.then K Q x a W:=h W rfl
def rndI:Nat→Sip→Sip
 | 0,s=>s
 | n + 1,s=>rndP (rndI n s)
theorem rounds_any (b:Nat) (s:Sip) (n:Nat) (w:World) (hb:w.heap[b]? = some (.cells (sipC s) 277 (0,0))) (hn:n≤4) :
  Calls prog 265 #[.pointer (some ⟨b,0,none⟩),.int .i64 n] w fun e w'=>e = .returned (.tuple #[])∧SipAt w b (rndI n s) w':=by
 have HB:=zjp hb; clear hb;go_enter func265,ntmps265
 go_wp2_with fail
 go_loopw [5] (fun i wr=>∃ k:Nat,i = .int .i64 k∧k≤n∧SipAt w b (rndI k s) wr) (fun i _=>n - (intOf i).toNat)
 case atStart=>exact ⟨0,rfl,by omega,HB.out,zdo _ _⟩
 case round =>
  obtain ⟨k,rfl,hk,hs⟩:=hrel;have HS:=zjp hs; clear hs;by_cases hlt:k < n
  ·have hq:decide ((k:Int) < n) = true:=by simp; omega
   obtain ⟨s0,hs0⟩:∃ s0,rndI k s = s0:=⟨_,rfl⟩;rw [hs0] at HS;obtain ⟨a,b0,c,d⟩:=s0;obtain ⟨⟨c0,c1,c2,c3⟩,f0,f1,f2,f3⟩:=HS.out.read;dsimp only at c0 c1 c2 c3;go_wp2_with fail
   refine wp_region_noPanic ?_
   refine zat (by kernel_rfl) (fun w'=>w'.cell? ⟨b,0,none⟩ = some (.int .u64 a)∧w'.cell? ⟨b,1,none⟩ = some (.int .u64 b0)∧w'.cell? ⟨b,2,none⟩ = some (.int .u64 c)∧w'.cell? ⟨b,3,none⟩ = some (.int .u64 d)∧w'.frozen? ⟨b,0,none⟩ = false∧w'.frozen? ⟨b,1,none⟩ = false∧w'.frozen? ⟨b,2,none⟩ = false∧w'.frozen? ⟨b,3,none⟩ = false) 11 (⟨c0,c1,c2,c3,f0,f1,f2,f3⟩) (fun hHeld=>?_)
   refine tK 0 (h:=?_);refine tK 1 (h:=?_);refine tK 2 (h:=?_);refine tK 3 (h:=?_);refine tK 4 (h:=?_);refine tK 5 (h:=?_);refine tK 6 (h:=?_);refine tK 7 (h:=?_);refine tK 8 (h:=?_);refine tK 9 (h:=?_);refine tK 10 (h:=?_)
   refine xrK 11 rfl fun K hK=>?_
   go_simp;refine zas hK (by decide) ?_;clear hK K;refine zar (by kernel_rfl) ?_ _;refine NoPanic.normal ?_;first | refine zam (fun w1 hw1=>?_) | refine zcf (fun w1 hw1=>?_)
   have hs:SipAt w b ⟨ad a b0,b0,c,d⟩ w1:=by rw [hw1]; first | exact HS.out.set (n:=0) rfl | exact HS.out.set (n:=1) rfl
   obtain ⟨x1,hx1⟩:∃ x,ad a b0 = x:=⟨_,rfl⟩;rw [hx1] at hs;have Hx1:=zjp hx1; clear hx1;clear hw1 HS c0 c1 c2 c3 f0 f1 f2 f3; have HS:=zjp hs; clear hs;obtain ⟨⟨c0,c1,c2,c3⟩,f0,f1,f2,f3⟩:=HS.out.read;dsimp only at c0 c1 c2 c3;go_wp2_with fail
   refine wp_region_noPanic ?_
   refine zat (by kernel_rfl) (fun w'=>w'.cell? ⟨b,0,none⟩ = some (.int .u64 x1)∧w'.cell? ⟨b,1,none⟩ = some (.int .u64 b0)∧w'.cell? ⟨b,2,none⟩ = some (.int .u64 c)∧w'.cell? ⟨b,3,none⟩ = some (.int .u64 d)∧w'.frozen? ⟨b,0,none⟩ = false∧w'.frozen? ⟨b,1,none⟩ = false∧w'.frozen? ⟨b,2,none⟩ = false∧w'.frozen? ⟨b,3,none⟩ = false) 13 (⟨c0,c1,c2,c3,f0,f1,f2,f3⟩) (fun hHeld=>?_)
   refine tK 0 (h:=?_);refine tK 1 (h:=?_);refine tK 2 (h:=?_);refine tK 3 (h:=?_);refine tK 4 (h:=?_);refine tK 6 (h:=?_);refine tK 7 (h:=?_);refine tK 8 (h:=?_);refine tK 9 (h:=?_)
   refine xrK 5 rfl fun K hK=>?_
   go_simp;refine (rot13 _ _).mono ?_; rintro e wq ⟨rfl,rfl⟩
   refine zbe hK (⟨c0,c1,c2,c3,f0,f1,f2,f3⟩) (fun hHeld=>?_)
   clear hK K;refine tK 10 (h:=?_);refine tK 11 (h:=?_);refine tK 12 (h:=?_)
   refine xrK 13 rfl fun K hK=>?_
   go_simp;refine zas hK (by decide) ?_;clear hK K;refine zar (by kernel_rfl) ?_ _;refine NoPanic.normal ?_;first | refine zam (fun w1 hw1=>?_) | refine zcf (fun w1 hw1=>?_)
   have hs:SipAt w b ⟨x1,xr (ziw 8192 2251799813685248 b0) x1,c,d⟩ w1:=by rw [hw1]; first | exact HS.out.set (n:=0) rfl | exact HS.out.set (n:=1) rfl
   obtain ⟨x2,hx2⟩:∃ x,xr (ziw 8192 2251799813685248 b0) x1 = x:=⟨_,rfl⟩;rw [hx2] at hs;have Hx2:=zjp hx2; clear hx2;clear hw1 HS c0 c1 c2 c3 f0 f1 f2 f3; have HS:=zjp hs; clear hs;obtain ⟨⟨c0,c1,c2,c3⟩,f0,f1,f2,f3⟩:=HS.out.read;dsimp only at c0 c1 c2 c3;go_wp2_with fail
   refine (rot32 _ _).mono ?_; rintro e wq ⟨rfl,rfl⟩;go_wp2_with fail
   first | refine zam (fun w1 hw1=>?_) | refine zcf (fun w1 hw1=>?_)
   have hs:SipAt w b ⟨ziw 4294967296 4294967296 x1,x2,c,d⟩ w1:=by rw [hw1]; first | exact HS.out.set (n:=0) rfl | exact HS.out.set (n:=1) rfl
   obtain ⟨x3,hx3⟩:∃ x,ziw 4294967296 4294967296 x1 = x:=⟨_,rfl⟩;rw [hx3] at hs;have Hx3:=zjp hx3; clear hx3;clear hw1 HS c0 c1 c2 c3 f0 f1 f2 f3; have HS:=zjp hs; clear hs;obtain ⟨⟨c0,c1,c2,c3⟩,f0,f1,f2,f3⟩:=HS.out.read;dsimp only at c0 c1 c2 c3;go_wp2_with fail
   refine wp_region_noPanic ?_
   refine zat (by kernel_rfl) (fun w'=>w'.cell? ⟨b,0,none⟩ = some (.int .u64 x3)∧w'.cell? ⟨b,1,none⟩ = some (.int .u64 x2)∧w'.cell? ⟨b,2,none⟩ = some (.int .u64 c)∧w'.cell? ⟨b,3,none⟩ = some (.int .u64 d)∧w'.frozen? ⟨b,0,none⟩ = false∧w'.frozen? ⟨b,1,none⟩ = false∧w'.frozen? ⟨b,2,none⟩ = false∧w'.frozen? ⟨b,3,none⟩ = false) 11 (⟨c0,c1,c2,c3,f0,f1,f2,f3⟩) (fun hHeld=>?_)
   refine tK 0 (h:=?_);refine tK 1 (h:=?_);refine tK 2 (h:=?_);refine tK 3 (h:=?_);refine tK 4 (h:=?_);refine tK 5 (h:=?_);refine tK 6 (h:=?_);refine tK 7 (h:=?_);refine tK 8 (h:=?_);refine tK 9 (h:=?_);refine tK 10 (h:=?_)
   refine xrK 11 rfl fun K hK=>?_
   go_simp;refine zas hK (by decide) ?_;clear hK K;refine zar (by kernel_rfl) ?_ _;refine NoPanic.normal ?_;first | refine zam (fun w1 hw1=>?_) | refine zcf (fun w1 hw1=>?_)
   have hs:SipAt w b ⟨x3,x2,ad c d,d⟩ w1:=by rw [hw1]; first | exact HS.out.set (n:=0) rfl | exact HS.out.set (n:=1) rfl
   obtain ⟨x4,hx4⟩:∃ x,ad c d = x:=⟨_,rfl⟩;rw [hx4] at hs;have Hx4:=zjp hx4; clear hx4;clear hw1 HS c0 c1 c2 c3 f0 f1 f2 f3; have HS:=zjp hs; clear hs;obtain ⟨⟨c0,c1,c2,c3⟩,f0,f1,f2,f3⟩:=HS.out.read;dsimp only at c0 c1 c2 c3;go_wp2_with fail
   refine wp_region_noPanic ?_
   refine zat (by kernel_rfl) (fun w'=>w'.cell? ⟨b,0,none⟩ = some (.int .u64 x3)∧w'.cell? ⟨b,1,none⟩ = some (.int .u64 x2)∧w'.cell? ⟨b,2,none⟩ = some (.int .u64 x4)∧w'.cell? ⟨b,3,none⟩ = some (.int .u64 d)∧w'.frozen? ⟨b,0,none⟩ = false∧w'.frozen? ⟨b,1,none⟩ = false∧w'.frozen? ⟨b,2,none⟩ = false∧w'.frozen? ⟨b,3,none⟩ = false) 13 (⟨c0,c1,c2,c3,f0,f1,f2,f3⟩) (fun hHeld=>?_)
   refine tK 0 (h:=?_);refine tK 1 (h:=?_);refine tK 2 (h:=?_);refine tK 3 (h:=?_);refine tK 4 (h:=?_);refine tK 6 (h:=?_);refine tK 7 (h:=?_);refine tK 8 (h:=?_);refine tK 9 (h:=?_)
   refine xrK 5 rfl fun K hK=>?_
   go_simp;refine (rot16 _ _).mono ?_; rintro e wq ⟨rfl,rfl⟩
   refine zbe hK (⟨c0,c1,c2,c3,f0,f1,f2,f3⟩) (fun hHeld=>?_)
   clear hK K;refine tK 10 (h:=?_);refine tK 11 (h:=?_);refine tK 12 (h:=?_)
   refine xrK 13 rfl fun K hK=>?_
   go_simp;refine zas hK (by decide) ?_;clear hK K;refine zar (by kernel_rfl) ?_ _;refine NoPanic.normal ?_;first | refine zam (fun w1 hw1=>?_) | refine zcf (fun w1 hw1=>?_)
   have hs:SipAt w b ⟨x3,x2,x4,xr (ziw 65536 281474976710656 d) x4⟩ w1:=by rw [hw1]; first | exact HS.out.set (n:=0) rfl | exact HS.out.set (n:=1) rfl
   obtain ⟨x5,hx5⟩:∃ x,xr (ziw 65536 281474976710656 d) x4 = x:=⟨_,rfl⟩;rw [hx5] at hs;have Hx5:=zjp hx5; clear hx5;clear hw1 HS c0 c1 c2 c3 f0 f1 f2 f3; have HS:=zjp hs; clear hs;obtain ⟨⟨c0,c1,c2,c3⟩,f0,f1,f2,f3⟩:=HS.out.read;dsimp only at c0 c1 c2 c3;go_wp2_with fail
   refine wp_region_noPanic ?_
   refine zat (by kernel_rfl) (fun w'=>w'.cell? ⟨b,0,none⟩ = some (.int .u64 x3)∧w'.cell? ⟨b,1,none⟩ = some (.int .u64 x2)∧w'.cell? ⟨b,2,none⟩ = some (.int .u64 x4)∧w'.cell? ⟨b,3,none⟩ = some (.int .u64 x5)∧w'.frozen? ⟨b,0,none⟩ = false∧w'.frozen? ⟨b,1,none⟩ = false∧w'.frozen? ⟨b,2,none⟩ = false∧w'.frozen? ⟨b,3,none⟩ = false) 11 (⟨c0,c1,c2,c3,f0,f1,f2,f3⟩) (fun hHeld=>?_)
   refine tK 0 (h:=?_);refine tK 1 (h:=?_);refine tK 2 (h:=?_);refine tK 3 (h:=?_);refine tK 4 (h:=?_);refine tK 5 (h:=?_);refine tK 6 (h:=?_);refine tK 7 (h:=?_);refine tK 8 (h:=?_);refine tK 9 (h:=?_);refine tK 10 (h:=?_)
   refine xrK 11 rfl fun K hK=>?_
   go_simp;refine zas hK (by decide) ?_;clear hK K;refine zar (by kernel_rfl) ?_ _;refine NoPanic.normal ?_;first | refine zam (fun w1 hw1=>?_) | refine zcf (fun w1 hw1=>?_)
   have hs:SipAt w b ⟨ad x3 x5,x2,x4,x5⟩ w1:=by rw [hw1]; first | exact HS.out.set (n:=0) rfl | exact HS.out.set (n:=1) rfl
   obtain ⟨x6,hx6⟩:∃ x,ad x3 x5 = x:=⟨_,rfl⟩;rw [hx6] at hs;have Hx6:=zjp hx6; clear hx6;clear hw1 HS c0 c1 c2 c3 f0 f1 f2 f3; have HS:=zjp hs; clear hs;obtain ⟨⟨c0,c1,c2,c3⟩,f0,f1,f2,f3⟩:=HS.out.read;dsimp only at c0 c1 c2 c3;go_wp2_with fail
   refine wp_region_noPanic ?_
   refine zat (by kernel_rfl) (fun w'=>w'.cell? ⟨b,0,none⟩ = some (.int .u64 x6)∧w'.cell? ⟨b,1,none⟩ = some (.int .u64 x2)∧w'.cell? ⟨b,2,none⟩ = some (.int .u64 x4)∧w'.cell? ⟨b,3,none⟩ = some (.int .u64 x5)∧w'.frozen? ⟨b,0,none⟩ = false∧w'.frozen? ⟨b,1,none⟩ = false∧w'.frozen? ⟨b,2,none⟩ = false∧w'.frozen? ⟨b,3,none⟩ = false) 13 (⟨c0,c1,c2,c3,f0,f1,f2,f3⟩) (fun hHeld=>?_)
   refine tK 0 (h:=?_);refine tK 1 (h:=?_);refine tK 2 (h:=?_);refine tK 3 (h:=?_);refine tK 4 (h:=?_);refine tK 6 (h:=?_);refine tK 7 (h:=?_);refine tK 8 (h:=?_);refine tK 9 (h:=?_)
   refine xrK 5 rfl fun K hK=>?_
   go_simp;refine (rot21 _ _).mono ?_; rintro e wq ⟨rfl,rfl⟩
   refine zbe hK (⟨c0,c1,c2,c3,f0,f1,f2,f3⟩) (fun hHeld=>?_)
   clear hK K;refine tK 10 (h:=?_);refine tK 11 (h:=?_);refine tK 12 (h:=?_)
   refine xrK 13 rfl fun K hK=>?_
   go_simp;refine zas hK (by decide) ?_;clear hK K;refine zar (by kernel_rfl) ?_ _;refine NoPanic.normal ?_;first | refine zam (fun w1 hw1=>?_) | refine zcf (fun w1 hw1=>?_)
   have hs:SipAt w b ⟨x6,x2,x4,xr (ziw 2097152 8796093022208 x5) x6⟩ w1:=by rw [hw1]; first | exact HS.out.set (n:=0) rfl | exact HS.out.set (n:=1) rfl
   obtain ⟨x7,hx7⟩:∃ x,xr (ziw 2097152 8796093022208 x5) x6 = x:=⟨_,rfl⟩;rw [hx7] at hs;have Hx7:=zjp hx7; clear hx7;clear hw1 HS c0 c1 c2 c3 f0 f1 f2 f3; have HS:=zjp hs; clear hs;obtain ⟨⟨c0,c1,c2,c3⟩,f0,f1,f2,f3⟩:=HS.out.read;dsimp only at c0 c1 c2 c3;go_wp2_with fail
   refine wp_region_noPanic ?_
   refine zat (by kernel_rfl) (fun w'=>w'.cell? ⟨b,0,none⟩ = some (.int .u64 x6)∧w'.cell? ⟨b,1,none⟩ = some (.int .u64 x2)∧w'.cell? ⟨b,2,none⟩ = some (.int .u64 x4)∧w'.cell? ⟨b,3,none⟩ = some (.int .u64 x7)∧w'.frozen? ⟨b,0,none⟩ = false∧w'.frozen? ⟨b,1,none⟩ = false∧w'.frozen? ⟨b,2,none⟩ = false∧w'.frozen? ⟨b,3,none⟩ = false) 11 (⟨c0,c1,c2,c3,f0,f1,f2,f3⟩) (fun hHeld=>?_)
   refine tK 0 (h:=?_);refine tK 1 (h:=?_);refine tK 2 (h:=?_);refine tK 3 (h:=?_);refine tK 4 (h:=?_);refine tK 5 (h:=?_);refine tK 6 (h:=?_);refine tK 7 (h:=?_);refine tK 8 (h:=?_);refine tK 9 (h:=?_);refine tK 10 (h:=?_)
   refine xrK 11 rfl fun K hK=>?_
   go_simp;refine zas hK (by decide) ?_;clear hK K;refine zar (by kernel_rfl) ?_ _;refine NoPanic.normal ?_;first | refine zam (fun w1 hw1=>?_) | refine zcf (fun w1 hw1=>?_)
   have hs:SipAt w b ⟨x6,x2,ad x4 x2,x7⟩ w1:=by rw [hw1]; first | exact HS.out.set (n:=0) rfl | exact HS.out.set (n:=1) rfl
   obtain ⟨x8,hx8⟩:∃ x,ad x4 x2 = x:=⟨_,rfl⟩;rw [hx8] at hs;have Hx8:=zjp hx8; clear hx8;clear hw1 HS c0 c1 c2 c3 f0 f1 f2 f3; have HS:=zjp hs; clear hs;obtain ⟨⟨c0,c1,c2,c3⟩,f0,f1,f2,f3⟩:=HS.out.read;dsimp only at c0 c1 c2 c3;go_wp2_with fail
   refine wp_region_noPanic ?_
   refine zat (by kernel_rfl) (fun w'=>w'.cell? ⟨b,0,none⟩ = some (.int .u64 x6)∧w'.cell? ⟨b,1,none⟩ = some (.int .u64 x2)∧w'.cell? ⟨b,2,none⟩ = some (.int .u64 x8)∧w'.cell? ⟨b,3,none⟩ = some (.int .u64 x7)∧w'.frozen? ⟨b,0,none⟩ = false∧w'.frozen? ⟨b,1,none⟩ = false∧w'.frozen? ⟨b,2,none⟩ = false∧w'.frozen? ⟨b,3,none⟩ = false) 13 (⟨c0,c1,c2,c3,f0,f1,f2,f3⟩) (fun hHeld=>?_)
   refine tK 0 (h:=?_);refine tK 1 (h:=?_);refine tK 2 (h:=?_);refine tK 3 (h:=?_);refine tK 4 (h:=?_);refine tK 6 (h:=?_);refine tK 7 (h:=?_);refine tK 8 (h:=?_);refine tK 9 (h:=?_)
   refine xrK 5 rfl fun K hK=>?_
   go_simp;refine (rot17 _ _).mono ?_; rintro e wq ⟨rfl,rfl⟩
   refine zbe hK (⟨c0,c1,c2,c3,f0,f1,f2,f3⟩) (fun hHeld=>?_)
   clear hK K;refine tK 10 (h:=?_);refine tK 11 (h:=?_);refine tK 12 (h:=?_)
   refine xrK 13 rfl fun K hK=>?_
   go_simp;refine zas hK (by decide) ?_;clear hK K;refine zar (by kernel_rfl) ?_ _;refine NoPanic.normal ?_;first | refine zam (fun w1 hw1=>?_) | refine zcf (fun w1 hw1=>?_)
   have hs:SipAt w b ⟨x6,xr (ziw 131072 140737488355328 x2) x8,x8,x7⟩ w1:=by rw [hw1]; first | exact HS.out.set (n:=0) rfl | exact HS.out.set (n:=1) rfl
   obtain ⟨x9,hx9⟩:∃ x,xr (ziw 131072 140737488355328 x2) x8 = x:=⟨_,rfl⟩;rw [hx9] at hs;have Hx9:=zjp hx9; clear hx9;clear hw1 HS c0 c1 c2 c3 f0 f1 f2 f3; have HS:=zjp hs; clear hs;obtain ⟨⟨c0,c1,c2,c3⟩,f0,f1,f2,f3⟩:=HS.out.read;dsimp only at c0 c1 c2 c3;go_wp2_with fail
   refine (rot32 _ _).mono ?_; rintro e wq ⟨rfl,rfl⟩;go_wp2_with fail
   go_roundw
   case rel =>
    refine ⟨k + 1,by go_num,by omega,?_⟩;have hs:SipAt w b ⟨x6,x9,ziw 4294967296 4294967296 x8,x7⟩ (w1.setCell ⟨b,2,none⟩ (.int .u64 (ziw 4294967296 4294967296 x8))):=HS.out.set (n:=0) rfl;have e:(⟨x6,x9,ziw 4294967296 4294967296 x8,x7⟩:Sip) = rndP ⟨a,b0,c,d⟩:=by rw [← Hx9.out,← Hx8.out,← Hx7.out,← Hx6.out,← Hx5.out,← Hx4.out,← Hx3.out,← Hx2.out,← Hx1.out]; rfl
    rw [rndI,hs0,← e]; exact hs
   case measure=>simp [intOf]; omega
  ·have hq:decide ((k:Int) < n) = false:=by simp; omega
   obtain rfl:k = n:=by omega
   go_wp2_with fail
   go_end0;exact ⟨rfl,HS.out⟩
theorem sword_any (b:Nat) (s:Sip) (m:Int) (w:World) (hb:w.heap[b]? = some (.cells (sipC s) 277 (0,0))) :
  Calls prog 263 #[.pointer (some ⟨b,0,none⟩),.int .u64 m] w fun e w'=>e = .returned (.tuple #[])∧SipAt w b (wordP s m) w':=by
 have hs:SipAt w b s w:=⟨hb,zdo _ _⟩;have HS:=zjp hs; clear hs hb;obtain ⟨⟨c0,c1,c2,c3⟩,f0,f1,f2,f3⟩:=HS.out.read;go_enter func263,ntmps263
 go_wp2_with fail
 have hs1:SipAt w b ⟨s.a,s.b,s.c,xr s.d m⟩ (w.setCell ⟨b,3,none⟩ (.int .u64 (xr s.d m))):=HS.out.set (n:=0) rfl;refine (rounds_any b ⟨s.a,s.b,s.c,xr s.d m⟩ 2 _ hs1.1 (by omega)).mono ?_;rintro e w1 ⟨rfl,hs2⟩;have hs3:SipAt w b (rndP (rndP ⟨s.a,s.b,s.c,xr s.d m⟩)) w1:=⟨hs2.1,zcm hs1.2 hs2.2⟩;obtain ⟨t,ht⟩:∃ t,rndP (rndP ⟨s.a,s.b,s.c,xr s.d m⟩) = t:=⟨_,rfl⟩;rw [ht] at hs3;have hw:wordP s m = ⟨xr t.a m,t.b,t.c,t.d⟩:=by rw [← ht]; rfl
 have HW:=zjp hw;clear hs1 hs2 ht hw HS c0 c1 c2 c3 f0 f1 f2 f3;have HS:=zjp hs3; clear hs3;obtain ⟨⟨c0,c1,c2,c3⟩,f0,f1,f2,f3⟩:=HS.out.read;go_wp2_with fail
 go_end0;exact ⟨rfl,by rw [HW.out]; exact HS.out.set (n:=0) rfl⟩
abbrev encB (c:UInt8):List Value:=[zf2 c]
theorem snumber_any (S:Nat→Prop) (v:Value) (l:List UInt8) (w:World) (h:Vec w S 1 encB v l) (hl:l.length≤8) :
  Calls prog 264 #[v] w fun e w'=>e = .returned (.int .u64 (numP 0 0 l))∧w = w':=by
 obtain ⟨a,cap,rfl⟩:=h.slice;have HV:=zjp h; clear h;go_enter func264,ntmps264
 go_wp2_with fail
 go_loopw [3,4,5,8] (fun m _ _ i wr=>wr = w∧∃ (k:Nat) (mm:Int),i = .int .i64 k∧k≤l.length∧m = .int .u64 mm∧Hid (numP k mm (l.drop k) = numP 0 0 l)) (fun _ _ _ i _=>l.length - (intOf i).toNat)
 case atStart=>exact ⟨rfl,0,0,rfl,by omega,rfl,zjp rfl⟩
 case round =>
  obtain ⟨rfl,k,mm,rfl,hk,rfl,HT⟩:=hrel;by_cases hlt:k < l.length
  ·have hq:decide ((k:Int) < l.length) = true:=by simp; omega
   obtain ⟨b,off,rfl,hb,hc⟩:=HV.out.get k hlt;have c0:=hc 0 _ rfl;rw [Nat.mul_one,Nat.add_zero] at c0;unfold zf2 at c0;go_wp2_with fail
   go_roundw
   case rel=>exact ⟨trivial,k + 1,_,by go_num,by omega,rfl,zjp (by rw [← HT.out,List.drop_eq_getElem_cons hlt]; rfl)⟩
   case measure=>simp [intOf]; omega
  ·have hq:decide ((k:Int) < l.length) = false:=by simp; omega
   have hd:l.drop k = []:=List.drop_eq_nil_of_le (by omega);rw [hd] at HT;obtain rfl:mm = numP 0 0 l:=HT.out;clear HT hd;go_wp2_with fail
   go_ret;exact ⟨rfl,rfl⟩
end
section
open Go
theorem run_load_zero {P:Program} (a:Addr) (w:World):Sem.run P (loadCells a 0) w = .ok #[] w:=rfl
theorem run_append_zero {P:Program} {w:World} (base:Nat) (t ty e:TypeId) (i:TypeInfo) (size:Nat) (ht:P.underlying t = some (.slice e)) (hi:P.info? e = some i)
  (v:Value) (n:Nat) (xs:List Value) (hown:w.ownsRow base e size v n xs) (ad:Option Addr) (c:Nat) :
  (Builtin.append_ #[t,t] ty #[v,.slice ad 0 c]).run P w = .ok v w:=by
 have lz:=fun a=>run_load_zero (P:=P) a w
 rcases hown.2 with ⟨rfl,rfl⟩ | ⟨g,cap,cur,rfl,_,_,hnc,_⟩
 ·cases ad <;> simp [Builtin.append_,run_underlying ht,sizeOf,typeInfo,hi,Builtin.lenOf,Builtin.firstCells,lz,Sem.run_pure,Result.andThen]
 ·cases ad <;> simp [Builtin.append_,run_underlying ht,sizeOf,typeInfo,hi,Builtin.lenOf,Builtin.firstCells,hnc,storeCells,lz,Sem.run_pure,Result.andThen]
theorem wp_append_zero {P:Program} {w:World} {o:Oper} {a:Act} {K:Act→World→Prop} {Q:Exit→Act→World→Prop} (s x:Operand) (t:TypeId)
  (ho:o.op = .call { callee:=.builtin .append,args:=#[s,x],argTypes:=#[t,t] })
  (base:Nat) (e:TypeId) (i:TypeInfo) (size:Nat) (ht:P.underlying t = some (.slice e)) (hi:P.info? e = some i)
  (v:Value) (n:Nat) (xs:List Value) (hs:a.eval s = v) (hown:w.ownsRow base e size v n xs) (ad:Option Addr) (c:Nat) (hx:a.eval x = .slice ad 0 c)
  (h:K (a.put o.dst v) w):Oper.wp P o a w K Q:=by
 have hrun:=run_append_zero (P:=P) (w:=w) base t o.type e i size ht hi v n xs hown ad c;unfold Oper.wp execOp;simp only [ho,resolve,invoke,builtin,Sem.run_bind,Sem.run_pure,Result.andThen_ok,List.map_toArray,List.map_cons,List.map_nil,hs,hx,hrun];exact h
def zcn (w:World) (size:Nat) (u:Value) (m:Nat) (news:List Value):Prop :=
 ∃ ad c,u = .slice ad m c∧news.length = m * size∧(0 < m→∃ A,ad = some A∧∀ j v,news[j]? = some v→w.cell? (A.add j) = some v)
theorem zdf {P:Program} {w:World} {o:Oper} {a:Act} {K:Act→World→Prop} {Q:Exit→Act→World→Prop} (s x:Operand) (t:TypeId)
  (ho:o.op = .call { callee:=.builtin .append,args:=#[s,x],argTypes:=#[t,t] })
  (base:Nat) (e:TypeId) (z:Value) (size bytes:Nat) (ht:P.underlying t = some (.slice e)) (hinfo:(P.info? e).map (fun i=>(i.zero,i.size,i.bytes)) = some (some z,size,bytes))
  (hzs:z.cells.size = size) (hsz:0 < size)
  (v:Value) (n:Nat) (xs:List Value) (hs:a.eval s = v) (hown:w.ownsRow base e size v n xs)
  (u:Value) (m:Nat) (news:List Value) (hx:a.eval x = u) (hr:zcn w size u m news) (h1:∀ u∈news,u.oneCell' = true)
  (h63:n + m≤maxLen) (hbytes:(n + m) * bytes≤140737488355328) (hbase:base≤w.heap.size)
  (h:∀ v' w',w'.ownsRow base e size v' (n + m) (xs ++ news)→w.grownBy w' v.ownBlock→(v'.ownBlock = none∨v.ownBlock = v'.ownBlock∨v'.ownBlock = some w.heap.size)→K (a.put o.dst v') w'):Oper.wp P o a w K Q:=by
 obtain ⟨ad,c,rfl,hl,hc⟩:=hr;obtain ⟨i,hi,hz,h2,h3⟩:=info_parts hinfo;by_cases hm:m = 0
 ·subst hm
  have hn:news = []:=List.length_eq_zero_iff.1 (by omega);subst hn;refine wp_append_zero s x t ho base e i size ht hi v n xs hs hown ad c hx (h v w (by simpa using hown) ⟨rfl,rfl,rfl,Nat.le_refl _,fun _ _ _=>rfl⟩ (.inr (.inl rfl)))
 ·obtain ⟨A,rfl,hcell⟩:=hc (by omega)
  refine wp_append_lies w s x t ho base e i z size bytes ht hi hz h2 h3 hzs hsz v n xs hs hown A m c news hx hl hcell h1 (by omega) h63 hbytes hbase _ rfl fun g cap w' ho' hg hat hlt=>?_
  rcases hat with h4 | h4
  ·exact h _ w' ho' hg (.inr (.inl h4))
  ·exact h _ w' ho' hg (.inr (.inr (by rw [h4]; rfl)))
end
section
open Go.RowKit
variable {α:Type}
def OwnV (e:TypeId) (size:Nat) (enc:α→List Value) (w0:World) (v:Value) (L:List α) (w:World):Prop :=
 w.ownsRow w0.heap.size e size v L.length (L.flatMap enc)∧Below w0.heap.size w0 w
theorem zcb {w w':World} {B e size n:Nat} {v:Value} {xs:List Value} (h:w.ownsRow B e size v n xs) (hb:Below w.heap.size w w'):w'.ownsRow B e size v n xs:=by
 refine ⟨h.1,?_⟩
 rcases h.2 with h0 | ⟨g,cap,cur,hv,hg,hh,rest⟩
 ·exact .inl h0
 ·exact .inr ⟨g,cap,cur,hv,hg,(hb.block g (zaa hh)).trans hh,rest⟩
theorem OwnV.below {e size:Nat} {enc:α→List Value} {w0 w w':World} {v:Value} {L:List α} (h:OwnV e size enc w0 v L w) (hb:Below w.heap.size w w'):OwnV e size enc w0 v L w' :=
 ⟨zcb h.1 hb,h.2.trans (hb.mono h.2.size)⟩
theorem OwnV.start (e size:Nat) (enc:α→List Value) (w0:World):OwnV e size enc w0 (.slice none 0 0) [] w0:=⟨⟨by simp,.inl ⟨rfl,rfl⟩⟩,Below.refl _ _⟩
theorem OwnV.nil {e size:Nat} {enc:α→List Value} {w0 w:World} (hb:Below w0.heap.size w0 w):OwnV e size enc w0 (.slice none 0 0) [] w:=⟨⟨by simp,.inl ⟨rfl,rfl⟩⟩,hb⟩
theorem OwnV.vec {e size:Nat} {enc:α→List Value} (hk:∀ x,(enc x).length = size) {w0 w:World} {v:Value} {L:List α} (h:OwnV e size enc w0 v L w):Vec w (fun b=>w0.heap.size≤b) size enc v L :=
 Vec.owns hk h.1 fun b hb _=>hb
theorem OwnV.form {e size:Nat} {enc:α→List Value} {w0 w:World} {v:Value} {L:List α} (h:OwnV e size enc w0 v L w):(v = .slice none 0 0∧L = [])∨∃ g cap,v = .slice (some ⟨g,0,none⟩) L.length cap∧L.length≤cap∧cap≤maxLen∧g < w.heap.size:=by
 rcases h.1.2 with ⟨rfl,h0⟩ | ⟨g,cap,cur,rfl,_,hh,h1,h2,_⟩
 ·exact .inl ⟨rfl,List.length_eq_zero_iff.1 h0⟩
 ·exact .inr ⟨g,cap,rfl,h1,h2,zaa hh⟩
theorem OwnV.rebase {e size:Nat} {enc:α→List Value} {w0 w1 w:World} {v:Value} {L:List α} (h:OwnV e size enc w1 v L w) (hb:Below w0.heap.size w0 w1):OwnV e size enc w0 v L w:=by
 refine ⟨⟨h.1.1,?_⟩,hb.trans (h.2.mono hb.size)⟩
 rcases h.1.2 with h0 | ⟨g,cap,cur,hv,hg,rest⟩
 ·exact .inl h0
 ·exact .inr ⟨g,cap,cur,hv,Nat.le_trans hb.size hg,rest⟩
theorem za2 {w:World} {g:Nat} {t:TypeId} {fr:Nat × Nat} {size c:Nat} {xs:List Value} (h:w.heap[g]? = some (.cells xs.toArray t fr)) (hl:xs.length = size):zcn w size (.slice (some ⟨g,0,none⟩) 1 c) 1 xs :=
 ⟨_,c,rfl,by omega,fun _=>⟨_,rfl,fun j u hj=>by rw [zch,cell_of_row _ _ _ _ _ _ h,Nat.zero_add]; simpa using hj⟩⟩
theorem Vec.reads {w:World} {S:Nat→Prop} {k:Nat} {enc:α→List Value} (hk:∀ x,(enc x).length = k) {v:Value} {L:List α} (h:Vec w S k enc v L):zcn w k v L.length (L.flatMap enc):=by
 obtain ⟨a,cap,rfl,_,h3⟩:=h
 refine ⟨a,cap,rfl,zd3 hk L,fun h0=>?_⟩
 obtain ⟨b,off,rfl,_,hb,hc⟩:=h3 h0
 refine ⟨⟨b,off,none⟩,rfl,fun j u hj=>?_⟩
 rw [zch];have hjl:j < L.length * k:=by rw [← zd3 hk L]; exact (List.getElem?_eq_some_iff.1 hj).1
 have hk0:0 < k:=by
  rcases Nat.eq_zero_or_pos k with h' | h'
  ·rw [h',Nat.mul_zero] at hjl; omega
  ·exact h'
 have hq:j / k < L.length:=Nat.div_lt_of_lt_mul (by rw [Nat.mul_comm]; exact hjl);have hr:j % k < k:=Nat.mod_lt _ hk0;have e1:j / k * k + j % k = j:=Nat.div_add_mod' j k;have hg:=zf8 hk L (j / k) _ (List.getElem?_eq_getElem hq) (j % k) hr;rw [e1,hj] at hg;have:=hc (j / k) _ (List.getElem?_eq_getElem hq) (j % k) u hg.symm;rwa [Nat.add_assoc,e1] at this
theorem Vec.reads_take {w:World} {S:Nat→Prop} {k:Nat} {enc:α→List Value} (hk:∀ x,(enc x).length = k) {a:Option Addr} {n cap:Nat} {L:List α} (h:Vec w S k enc (.slice a n cap) L) (m:Nat) (hm:m≤L.length):zcn w k (.slice a m cap) m ((L.take m).flatMap enc):=by
 have h':Vec w S k enc (.slice a m cap) (L.take m):=by
  obtain ⟨a',cap',h1,h2,h3⟩:=h;cases h1
  refine ⟨a,cap,by rw [List.length_take,Nat.min_eq_left hm],by rw [List.length_take]; omega,fun h0=>?_⟩
  rw [List.length_take] at h0;obtain ⟨b,off,h4,h5,h5',h6⟩:=h3 (by omega)
  refine ⟨b,off,h4,h5,h5',fun j x hj=>h6 j x ?_⟩
  rw [List.getElem?_take] at hj;split at hj
  ·exact hj
  ·cases hj
 have:=h'.reads hk;rwa [List.length_take,Nat.min_eq_left hm] at this
theorem Vec.reads_drop {w:World} {S:Nat→Prop} {enc:α→List Value} (hk:∀ x,(enc x).length = 1) {b off n cap:Nat} {L:List α} (h:Vec w S 1 enc (.slice (some ⟨b,off,none⟩) n cap) L) (m:Nat) (hm:m≤L.length) (p:Prop) [Decidable p] (hp:p→m = L.length) (c:Nat) :
  zcn w 1 (.slice (if p then some ⟨b,off,none⟩ else some ⟨b,off + m,none⟩) (L.length - m) c) (L.length - m) ((L.drop m).flatMap enc):=by
 have hr:=h.reads hk;obtain ⟨a,c',he,hl,hc⟩:=hr;cases he
 refine ⟨_,c,rfl,by rw [zd3 hk,List.length_drop],fun h0=>?_⟩
 have hnp:¬ p:=fun hp'=>by have:=hp hp'; omega
 rw [if_neg hnp];obtain ⟨A,hA,hcell⟩:=hc (by omega);cases hA
 refine ⟨_,rfl,fun j v hj=>?_⟩
 have e:(L.flatMap enc)[m + j]? = some v:=by
  have h2:L.flatMap enc = (L.take m).flatMap enc ++ (L.drop m).flatMap enc:=by rw [← List.flatMap_append,List.take_append_drop]
  have h3:((L.take m).flatMap enc).length = m:=by rw [zd3 hk,List.length_take,Nat.min_eq_left hm]; omega
  rw [h2,List.getElem?_append_right (by omega),h3,show m + j - m = j by omega]; exact hj
 have:=hcell (m + j) v e;rw [zch] at this ⊢;rwa [Nat.add_assoc]
section
variable {P:Program} {w:World} {o:Oper} {a:Act} {K:Act→World→Prop} {Q:Exit→Act→World→Prop}
theorem zbs (s x:Operand) (t:TypeId) (ho:o.op = .call { callee:=.builtin .append,args:=#[s,x],argTypes:=#[t,t] })
  (e:TypeId) (z:Value) (size bytes:Nat) (enc:α→List Value) (hk:∀ x,(enc x).length = size) (h1:∀ x,∀ u∈enc x,u.oneCell' = true) (ht:P.underlying t = some (.slice e)) (hinfo:(P.info? e).map (fun i=>(i.zero,i.size,i.bytes)) = some (some z,size,bytes))
  (hzs:z.cells.size = size) (hsz:0 < size) (hby:bytes≤128) {w0:World} {v u:Value} {A B:List α} (hs:a.eval s = v) (hown:OwnV e size enc w0 v A w) (hx:a.eval x = u) (hr:zcn w size u B.length (B.flatMap enc)) (hn:A.length + B.length≤1000000000)
  (h:∀ v' w',OwnV e size enc w0 v' (A ++ B) w'→(∀ k o,some k≠v.ownBlock→w.heap[k]? = some o→w'.heap[k]? = some o)→w.heap.size≤w'.heap.size→K (a.put o.dst v') w'):Oper.wp P o a w K Q:=by
 refine zdf s x t ho w0.heap.size e z size bytes ht hinfo hzs hsz v A.length (A.flatMap enc) hs hown.1 u B.length (B.flatMap enc) hx hr (fun u hu=>?_) (by unfold maxLen; omega) ?_ hown.2.size ?_
 ·obtain ⟨y,_,hy⟩:=List.mem_flatMap.1 hu
  exact h1 y u hy
 ·exact Nat.le_trans (Nat.mul_le_mul hn hby) (by decide)
 ·intro v' w' ho' hg hat
  refine h v' w' ⟨by rw [List.length_append,List.flatMap_append]; exact ho',hown.2.grown hg hown.2.size fun k hk=>?_⟩ (fun k o hk hko=>(hg.block k (zaa hko) hk).trans hko) hg.size
  rcases hown.1.2 with ⟨rfl,_⟩ | ⟨g,cap,cur,rfl,hg1,_⟩
  ·simp [Value.ownBlock] at hk
  ·have:g = k:=by simpa [Value.ownBlock] using hk
   omega
end
end
section
open Go.RowKit
theorem infoBy:(prog.info? 5).map (fun i=>(i.zero,i.size,i.bytes)) = some (some (.int .u8 0),1,1):=by kernel_rfl
theorem Vec.dropped {α:Type} {w:World} {S:Nat→Prop} {enc:α→List Value} {b off n cap:Nat} {L:List α} (h:Vec w S 1 enc (.slice (some ⟨b,off,none⟩) n cap) L) (m:Nat) (hm:m≤L.length) (p:Prop) [Decidable p] (hp:p→m = L.length) (c:Nat) (hc:L.length - m≤c) :
  Vec w S 1 enc (.slice (if p then some ⟨b,off,none⟩ else some ⟨b,off + m,none⟩) (L.length - m) c) (L.drop m):=by
 obtain ⟨a',cap',h1,h2,h3⟩:=h;cases h1
 refine ⟨_,c,by rw [List.length_drop],by rw [List.length_drop]; exact hc,fun h0=>?_⟩
 rw [List.length_drop] at h0;have hnp:¬ p:=fun hp'=>by have:=hp hp'; omega
 rw [if_neg hnp];obtain ⟨b',off',e,hS,hb,hcell⟩:=h3 (by omega);cases e
 refine ⟨b,off + m,rfl,hS,hb,fun j x hj i u hu=>?_⟩
 have:=hcell (m + j) x (by rw [List.getElem?_drop] at hj; exact hj) i u hu;rw [Nat.mul_one] at this ⊢;rwa [← Nat.add_assoc] at this
theorem Vec.taken {α:Type} {w:World} {S:Nat→Prop} {k:Nat} {enc:α→List Value} {a:Option Addr} {n cap:Nat} {L:List α} (h:Vec w S k enc (.slice a n cap) L) (m c:Nat) (hm:m≤L.length) (hc:m≤c):Vec w S k enc (.slice a m c) (L.take m):=by
 obtain ⟨a',cap',h1,h2,h3⟩:=h;cases h1
 refine ⟨a,c,by rw [List.length_take,Nat.min_eq_left hm],by rw [List.length_take]; omega,fun h0=>?_⟩
 rw [List.length_take] at h0;obtain ⟨b,off,h4,h5,h5',h6⟩:=h3 (by omega)
 refine ⟨b,off,h4,h5,h5',fun j x hj=>h6 j x ?_⟩
 rw [List.getElem?_take] at hj;split at hj
 ·exact hj
 ·cases hj
theorem Vec.grown {α:Type} {w w':World} {S:Nat→Prop} {k:Nat} {enc:α→List Value} {v:Value} {L:List α} {b:Nat} (h:Vec w S k enc v L) (hS:∀ x,S x→x≠b) (g:w.grownBy w' (some b)):Vec w' S k enc v L :=
 h.move g.size fun x hx hs=>⟨g.block x hx (by have:=hS x hs; simp; omega),hs⟩
def lenOfV:Value→Nat
 | .slice _ n _=>n
 | _=>0
theorem SipAt.base {w W w':World} {b B:Nat} {s:Sip} (h:SipAt W b s w') (hb:Below B w W) (hB:B≤b) (hW:B≤W.heap.size):Below B w w' :=
 hb.trans ⟨h.2.os,h.2.tape,h.2.output,h.2.size,fun k hk=>h.2.block k (by omega) (by simp; omega)⟩
theorem eachP_step (s:Sip) (l:List UInt8) (n:Nat):zji s l (n + 1) = zji (wordP s (numP 0 0 (l.take 8))) (l.drop 8) n:=rfl
theorem eachP_more (s:Sip) (l:List UInt8) (h:8≤l.length):zji s l (l.length / 8) = zji (wordP s (numP 0 0 (l.take 8))) (l.drop 8) ((l.drop 8).length / 8):=by
 rw [show l.length / 8 = (l.drop 8).length / 8 + 1 by rw [List.length_drop]; omega,eachP_step]
theorem eachP_end (s:Sip) (l:List UInt8) (h:l.length < 8):zji s l (l.length / 8) = (s,l):=by
 rw [show l.length / 8 = 0 by omega]; rfl
theorem sumP_of (ka kb:Int) (l:List UInt8) (s:Sip) (r:List UInt8) (h:zji ⟨xr ka 8317987319222330741,xr kb 7237128888997146477,xr ka 7816392313619706465,xr kb 8387220255154660723⟩ l (l.length / 8) = (s,r)) (u:Sip)
  (hu:wordP s (bits .or .u64 (numP 0 0 r) (IntKind.u64.wrap ((l.length:Int) * 72057594037927936))) = u) (v:Sip) (hv:rndI 4 ⟨u.a,u.b,xr u.c 255,u.d⟩ = v):xr (xr (xr v.a v.b) v.c) v.d = sumP ka kb l:=by
 unfold sumP;rw [h];dsimp only;rw [hu,← hv]; rfl
theorem ssum_any (S:Nat→Prop) (ka kb:Int) (v:Value) (l:List UInt8) (w:World) (h:Vec w S 1 encB v l) (hl:l.length≤1000000000) :
  Calls prog 243 #[.agg #[.int .u64 ka,.int .u64 kb],v] w fun e w'=>e = .returned (.int .u64 (sumP ka kb l))∧Below w.heap.size w w':=by
 obtain ⟨a,cap,rfl⟩:=h.slice;have HV:=zjp (h.any.move (S':=fun b=>b < w.heap.size) (w':=w) xnl fun b hb _=>⟨rfl,hb⟩); clear h
 go_enter func243,ntmps243
 go_wp2_with fail
 refine zam (fun W hW=>?_)
 have hb0:=xam hW
 have hs0:SipAt W (w.heap.size + 1) ⟨xr ka 8317987319222330741,xr kb 7237128888997146477,xr ka 7816392313619706465,xr kb 8387220255154660723⟩ W:=by rw [hW]; exact ⟨zac (by simp),zdo _ _⟩
 have hv0:=HV.out.below hb0;clear hW HV;have HB0:=zjp hb0; have HS0:=zjp hs0; have HV0:=zjp hv0;clear hb0 hs0 hv0;go_loopw [1] (fun v wr=>∃ (r:List UInt8) (s:Sip),Vec wr (fun b=>b < w.heap.size) 1 encB v r∧SipAt W (w.heap.size + 1) s wr∧Hid (zji s r (r.length / 8) = zji ⟨xr ka 8317987319222330741,xr kb 7237128888997146477,xr ka 7816392313619706465,xr kb 8387220255154660723⟩ l (l.length / 8))∧r.length≤l.length) (fun v _=>lenOfV v)
 case atStart=>exact ⟨l,_,HV0.out,HS0.out,zjp rfl,Nat.le_refl _⟩
 case round =>
  obtain ⟨r,s,hv,hs,HE,hrl⟩:=hrel;obtain ⟨ar,cr,rfl⟩:=hv.slice;have HV:=zjp hv; have HS:=zjp hs;have hcr:r.length≤cr:=hv.len.2;clear hv hs;by_cases hlt:8≤r.length
  ·have hq:decide ((8:Int)≤r.length) = true:=by simp; omega
   have hc8:(8:Int)≤(cr:Int):=by omega
   obtain ⟨ba,oa,rfl,_,_⟩:=HV.out.get 0 (by omega);go_wp2_with fail
   refine (snumber_any _ _ (r.take 8) _ (HV.out.taken 8 cr hlt (by omega)) (by simp; omega)).mono ?_;rintro e wq ⟨rfl,rfl⟩;go_wp2_with fail
   refine (sword_any _ s _ _ HS.out.1).mono ?_;rintro e w1 ⟨rfl,hs1⟩;have HV1:=zjp (HV.out.grown (b:=w.heap.size + 1) (fun x hx=>by omega) hs1.2)
   have HS1:=zjp (show SipAt W (w.heap.size + 1) (wordP s (numP 0 0 (r.take 8))) w1 from ⟨hs1.1,zcm HS.out.2 hs1.2⟩);clear hs1 HS HV;go_wp2_with fail
   go_roundw
   case rel=>exact ⟨r.drop 8,_,HV1.out.dropped 8 hlt (cr = 8) (fun h=>by omega) (cr - 8) (by omega),HS1.out,zjp (by rw [← HE.out,eachP_more s r hlt]),by rw [List.length_drop]; omega⟩
   case measure=>simp only [lenOfV]; omega
  ·have hq:decide ((8:Int)≤r.length) = false:=by simp; omega
   have hE:=HE.out;rw [eachP_end s r (by omega)] at hE;have HE2:=zjp hE.symm;clear hE HE;go_wp2_with fail
   refine (snumber_any _ _ r _ HV.out (by omega)).mono ?_;rintro e wq ⟨rfl,rfl⟩;go_wp2_with fail
   refine (sword_any _ s _ _ HS.out.1).mono ?_;rintro e w1 ⟨rfl,hs1⟩;obtain ⟨u,hu⟩:∃ u,wordP s (bits .or .u64 (numP 0 0 r) (IntKind.u64.wrap ((l.length:Int) * 72057594037927936))) = u:=⟨_,rfl⟩;rw [hu] at hs1;have HU:=zjp hu;have HS1:=zjp (show SipAt W (w.heap.size + 1) u w1 from ⟨hs1.1,zcm HS.out.2 hs1.2⟩);clear hs1 HS HV hu;obtain ⟨⟨c0,c1,c2,c3⟩,f0,f1,f2,f3⟩:=HS1.out.read;go_wp2_with fail
   have hs2:SipAt W (w.heap.size + 1) ⟨u.a,u.b,xr u.c 255,u.d⟩ (w1.setCell ⟨w.heap.size + 1,2,none⟩ (.int .u64 (xr u.c 255))):=HS1.out.set (n:=0) rfl;refine (rounds_any _ ⟨u.a,u.b,xr u.c 255,u.d⟩ 4 _ hs2.1 (by omega)).mono ?_;rintro e w2 ⟨rfl,hs3⟩;obtain ⟨v,hv⟩:∃ v,rndI 4 ⟨u.a,u.b,xr u.c 255,u.d⟩ = v:=⟨_,rfl⟩;rw [hv] at hs3;have HVv:=zjp hv;have HS3:=zjp (show SipAt W (w.heap.size + 1) v w2 from ⟨hs3.1,zcm hs2.2 hs3.2⟩);clear hs2 hs3 hv HS1 c0 c1 c2 c3 f0 f1 f2 f3;obtain ⟨⟨c0,c1,c2,c3⟩,f0,f1,f2,f3⟩:=HS3.out.read;go_wp2_with fail
   go_ret;refine ⟨?_,HS3.out.base HB0.out (by omega) HB0.out.size⟩;rw [← sumP_of ka kb l s r HE2.out u HU.out v HVv.out];rfl
end
section
open Go.RowKit
variable {α:Type}
def OwnM (D e size:Nat) (enc:α→List Value) (wA:World) (v:Value) (L:List α) (w:World):Prop :=
 w.ownsRow wA.heap.size e size v L.length (L.flatMap enc)∧Moved D wA w
theorem OwnM.moved {D e size:Nat} {enc:α→List Value} {wA w w':World} {v:Value} {L:List α} (h:OwnM D e size enc wA v L w) (m:Moved D w w'):OwnM D e size enc wA v L w':=by
 refine ⟨⟨h.1.1,?_⟩,h.2.trans m⟩
 rcases h.1.2 with h0 | ⟨g,cap,cur,hv,hg,hh,rest⟩
 ·exact .inl h0
 ·exact .inr ⟨g,cap,cur,hv,hg,m.blk (by have:=h.2.lt; omega) hh,rest⟩
theorem OwnM.nil {D e size:Nat} {enc:α→List Value} {wA w:World} (m:Moved D wA w):OwnM D e size enc wA (.slice none 0 0) [] w:=⟨⟨by simp,.inl ⟨rfl,rfl⟩⟩,m⟩
theorem OwnM.vec {D e size:Nat} {enc:α→List Value} (hk:∀ x,(enc x).length = size) {wA w:World} {v:Value} {L:List α} (h:OwnM D e size enc wA v L w):Vec w (fun b=>wA.heap.size≤b) size enc v L :=
 Vec.owns hk h.1 fun b hb _=>hb
theorem Moved.grown' {D:Nat} {wA w w':World} {row:Option Nat} (h:Moved D wA w) (hg:w.grownBy w' row) (hr:∀ k,row = some k→wA.heap.size≤k):Moved D wA w':=by
 have hlt:=h.lt
 refine ⟨⟨hg.os.trans h.grown.os,hg.tape.trans h.grown.tape,hg.output.trans h.grown.output,Nat.le_trans h.size hg.size,fun k hk hne=>?_⟩,h.deck.same fun k hk=>hg.block k (by have:=h.size; omega) (fun e=>by have:=hr k e.symm; omega),hlt⟩
 rw [hg.block k (by have:=h.size; omega) (fun e=>by have:=hr k e.symm; omega)]
 exact h.grown.block k hk hne
section
variable {P:Program} {w:World} {o:Oper} {a:Act} {K:Act→World→Prop} {Q:Exit→Act→World→Prop}
theorem wp_append_m (s x:Operand) (t:TypeId) (ho:o.op = .call { callee:=.builtin .append,args:=#[s,x],argTypes:=#[t,t] })
  (D e:Nat) (z:Value) (size bytes:Nat) (enc:α→List Value) (hk:∀ x,(enc x).length = size) (h1:∀ x,∀ u∈enc x,u.oneCell' = true) (ht:P.underlying t = some (.slice e)) (hinfo:(P.info? e).map (fun i=>(i.zero,i.size,i.bytes)) = some (some z,size,bytes))
  (hzs:z.cells.size = size) (hsz:0 < size) (hby:bytes≤128) {wA:World} {v u:Value} {A B:List α} (hs:a.eval s = v) (hown:OwnM D e size enc wA v A w) (hx:a.eval x = u) (hr:zcn w size u B.length (B.flatMap enc)) (hn:A.length + B.length≤1000000000)
  (h:∀ v' w',OwnM D e size enc wA v' (A ++ B) w'→(∀ k o,some k≠v.ownBlock→w.heap[k]? = some o→w'.heap[k]? = some o)→K (a.put o.dst v') w'):Oper.wp P o a w K Q:=by
 refine zdf s x t ho wA.heap.size e z size bytes ht hinfo hzs hsz v A.length (A.flatMap enc) hs hown.1 u B.length (B.flatMap enc) hx hr (fun u hu=>?_) (by unfold maxLen; omega) ?_ hown.2.size ?_
 ·obtain ⟨y,_,hy⟩:=List.mem_flatMap.1 hu
  exact h1 y u hy
 ·exact Nat.le_trans (Nat.mul_le_mul hn hby) (by decide)
 ·intro v' w' ho' hg hat
  refine h v' w' ⟨by rw [List.length_append,List.flatMap_append]; exact ho',hown.2.grown' hg fun k hk=>?_⟩ (fun k o hk hko=>(hg.block k (zaa hko) hk).trans hko)
  rcases hown.1.2 with ⟨rfl,_⟩ | ⟨g,cap,cur,rfl,hg1,_⟩
  ·simp [Value.ownBlock] at hk
  ·have:g = k:=by simpa [Value.ownBlock] using hk
   omega
theorem zeg {ops:Array Oper} {rest:List Oper} (hgd:o.guard = none) (s x:Operand) (t:TypeId) (ho:o.op = .call { callee:=.builtin .append,args:=#[s,x],argTypes:=#[t,t] })
  (D e:Nat) (z:Value) (size bytes:Nat) (enc:α→List Value) (hk:∀ x,(enc x).length = size) (h1:∀ x,∀ u∈enc x,u.oneCell' = true) (ht:P.underlying t = some (.slice e)) (hinfo:(P.info? e).map (fun i=>(i.zero,i.size,i.bytes)) = some (some z,size,bytes))
  (hzs:z.cells.size = size) (hsz:0 < size) (hby:bytes≤128) {wA:World} {v u:Value} {A B:List α} (hs:a.eval s = v) (hown:OwnM D e size enc wA v A w) (hx:a.eval x = u) (hr:zcn w size u B.length (B.flatMap enc)) (hn:A.length + B.length≤1000000000)
  (h:∀ v' w',OwnM D e size enc wA v' (A ++ B) w'→(∀ k o,some k≠v.ownBlock→w.heap[k]? = some o→w'.heap[k]? = some o)→wpList P ops Q rest (a.put o.dst v') w'):wpList P ops Q (o :: rest) a w :=
 wpList_plain hgd fun _ hK=>wp_append_m s x t ho D e z size bytes enc hk h1 ht hinfo hzs hsz hby hs hown hx hr hn fun v' w' h2 h3=>hK _ _ (h v' w' h2 h3)
theorem zcr {ops:Array Oper} {rest:List Oper} (hgd:o.guard = none) (s x:Operand) (t:TypeId) (ho:o.op = .call { callee:=.builtin .append,args:=#[s,x],argTypes:=#[t,t] })
  (e:TypeId) (z:Value) (size bytes:Nat) (enc:α→List Value) (hk:∀ x,(enc x).length = size) (h1:∀ x,∀ u∈enc x,u.oneCell' = true) (ht:P.underlying t = some (.slice e)) (hinfo:(P.info? e).map (fun i=>(i.zero,i.size,i.bytes)) = some (some z,size,bytes))
  (hzs:z.cells.size = size) (hsz:0 < size) (hby:bytes≤128) {w0:World} {v u:Value} {A B:List α} (hs:a.eval s = v) (hown:OwnV e size enc w0 v A w) (hx:a.eval x = u) (hr:zcn w size u B.length (B.flatMap enc)) (hn:A.length + B.length≤1000000000)
  (h:∀ v' w',OwnV e size enc w0 v' (A ++ B) w'→(∀ k o,some k≠v.ownBlock→w.heap[k]? = some o→w'.heap[k]? = some o)→w.heap.size≤w'.heap.size→wpList P ops Q rest (a.put o.dst v') w'):wpList P ops Q (o :: rest) a w :=
 wpList_plain hgd fun _ hK=>zbs s x t ho e z size bytes enc hk h1 ht hinfo hzs hsz hby hs hown hx hr hn fun v' w' h2 h3 h4=>hK _ _ (h v' w' h2 h3 h4)
end
end
section
open Go.RowKit
theorem flatB (l:List UInt8):l.flatMap encB = l.map zf2:=by
 induction l with
 | nil=>rfl
 | cons a l ih=>simp only [List.flatMap_cons,List.map_cons,ih]; rfl
theorem strCells_mk (l:List UInt8):Lib.strCells ⟨l.toArray⟩ = l.flatMap encB:=by rw [flatB]; simp [Lib.strCells,zf2]
theorem zie (t:List UInt8) (h:t.length≤60000):partP t = [UInt8.ofNat (t.length / 256),UInt8.ofNat t.length] ++ t:=by
 unfold partP;rw [Nat.min_eq_left (by omega),List.take_of_length_le (by omega)]; rfl
theorem zhq (L:List (List UInt8)) (h:∀ t∈L,t.length≤60000):(L.flatMap partP).length≤60002 * L.length:=by
 induction L with
 | nil=>simp
 | cons a L ih =>
  have h1:=h a (by simp);have h2:=ih fun t ht=>h t (by simp [ht])
  rw [List.flatMap_cons,List.length_append,zie a h1];simp only [List.length_append,List.length_cons,List.length_nil]; omega
theorem reads_row {w:World} {g:Nat} {t:TypeId} {fr:Nat × Nat} {c n:Nat} {xs:List Value} (h:w.heap[g]? = some (.cells xs.toArray t fr)) (hn:n = xs.length):zcn w 1 (.slice (some ⟨g,0,none⟩) n c) n xs:=by
 subst hn;exact ⟨_,c,rfl,by omega,fun _=>⟨_,rfl,fun j u hj=>by rw [zch,cell_of_row _ _ _ _ _ _ h,Nat.zero_add]; simpa using hj⟩⟩
theorem extract_all (t:List UInt8):(⟨t.toArray⟩:ByteArray).extract 0 t.length = ⟨t.toArray⟩:=by
 apply ByteArray.ext; simp [ByteArray.data_extract]
theorem one_encB:∀ (x:UInt8),∀ u∈encB x,u.oneCell' = true:=by intro x u hu; simp [zf2] at hu; subst hu; rfl
theorem zae {w:World} {b:Nat} {x y:Value} {t:TypeId} {fr:Nat × Nat} (h:w.heap[b]? = some (.cells #[x,y] t fr)):w.cell? ⟨b,0,none⟩ = some x∧w.cell? ⟨b,1,none⟩ = some y:=by
 refine ⟨?_,?_⟩ <;> (rw [cell_of_row _ _ _ _ _ _ h]; rfl)
section
variable {P:Program} {w:World} {ops:Array Oper} {rest:List Oper} {o:Oper} {a:Act} {Q:Exit→Act→World→Prop}
theorem zg7 (hgd:o.guard = none) (sl x:Operand) (t u:TypeId) (ho:o.op = .call { callee:=.builtin .append,args:=#[sl,x],argTypes:=#[t,u] })
  (e:TypeId) (ht:P.underlying t = some (.slice e)) (hu:P.underlying u = some .string) (hinfo:(P.info? e).map (fun i=>(i.zero,i.size,i.bytes)) = some (some (.int .u8 0),1,1)) {w0:World} {v:Value} {A:List UInt8} (l:List UInt8) (hs:a.eval sl = v)
  (hown:OwnV e 1 encB w0 v A w) (hx:a.eval x = zal l) (hn:A.length + l.length≤1000000000)
  (h:∀ v' w',OwnV e 1 encB w0 v' (A ++ l) w'→w.heap.size≤w'.heap.size→wpList P ops Q rest (a.put o.dst v') w'):wpList P ops Q (o :: rest) a w:=by
 obtain ⟨i,hi,hz,h2,h3⟩:=info_parts hinfo;have hsz:(⟨l.toArray⟩:ByteArray).size = l.length:=by simp [ByteArray.size]
 refine Lib.wpList_append_own_string w hgd sl x t u ho w0.heap.size e i ht hu hi hz h2 h3 v A.length (A.flatMap encB) hs hown.1 ⟨l.toArray⟩ hx (by unfold maxLen; omega) (by omega) hown.2.size ?_;intro v' w' ho' hg _;rw [hsz,strCells_mk] at ho'
 refine h v' w' ⟨by rw [List.length_append,List.flatMap_append]; exact ho',hown.2.grown hg hown.2.size fun k hk=>?_⟩ hg.size
 rcases hown.1.2 with ⟨rfl,_⟩ | ⟨g,cap,cur,rfl,hg1,_⟩
 ·simp [Value.ownBlock] at hk
 ·have:g = k:=by simpa [Value.ownBlock] using hk
  omega
end
theorem sparts_any (S:Nat→Prop) (ka kb:Int) (v:Value) (L:List (List UInt8)) (w:World) (h:Vec w S 1 zba v L) (hl:∀ t∈L,t.length≤60000) (hn:L.length≤1000) :
  Calls prog 220 #[.agg #[.int .u64 ka,.int .u64 kb],v] w fun e w'=>e = .returned (.int .u64 (zde ka kb L))∧Below w.heap.size w w':=by
 obtain ⟨a,cap,rfl⟩:=h.slice;have HV:=zjp h.any; clear h;have HL:=zjp hl; clear hl;go_enter func220,ntmps220
 go_wp2_with fail
 refine zam (fun W hW=>?_)
 have hb0:=xal hW
 have hk:W.heap[w.heap.size]? = some (.cells #[.int .u64 ka,.int .u64 kb] 41 (0,0)):=by rw [hW]; exact zac rfl
 have HV0:=zjp (HV.out.below hb0);have HB0:=zjp hb0; have HK:=zjp hk;clear hW hb0 hk HV;go_loopw [5,7,10] (fun v _ i wr=>∃ k:Nat,i = .int .i64 k∧k≤L.length∧OwnV 5 1 encB W v ((L.take k).flatMap partP) wr) (fun _ _ i _=>L.length - (intOf i).toNat)
 case atStart=>exact ⟨0,rfl,by omega,OwnV.start _ _ _ _⟩
 case round =>
  obtain ⟨k,rfl,hk,ho⟩:=hrel;have HO:=zjp ho; clear ho;by_cases hlt:k < L.length
  ·have hq:decide ((k:Int) < L.length) = true:=by simp; omega
   obtain ⟨t,ht⟩:∃ t,L[k] = t:=⟨_,rfl⟩;have htl:t.length≤60000:=HL.out t (by rw [← ht]; exact List.getElem_mem _);obtain ⟨b,off,rfl,hb,hc⟩:=(HV0.out.below HO.out.2).get k hlt;have c0:=hc 0 _ rfl;rw [Nat.mul_one,Nat.add_zero,ht] at c0;clear hc;have hm:min (t.length:Int) 65535 = (t.length:Int):=by omega
   have hx:=extract_all t;obtain ⟨x,ex⟩:∃ x,UInt8.ofNat (t.length / 256) = x:=⟨_,rfl⟩;obtain ⟨y,ey⟩:∃ y,UInt8.ofNat t.length = y:=⟨_,rfl⟩;have hxa:(t.length:Int) / 256 = (x.toNat:Int):=by rw [← ex,UInt8.toNat_ofNat']; omega
   have hya:(t.length:Int) % 256 = (y.toNat:Int):=by rw [← ey,UInt8.toNat_ofNat']; omega
   have hp:=zie t htl;rw [ex,ey] at hp;have hts:L.take (k + 1) = L.take k ++ [t]:=by rw [List.take_succ_eq_append_getElem hlt,ht]
   have htk:=zhq (L.take k) fun u hu=>HL.out u (List.mem_of_mem_take hu)
   rw [List.length_take] at htk;have HP:=zjp hp; have HTs:=zjp hts;clear hp hts ex ey;obtain ⟨P,hP⟩:∃ P,(L.take k).flatMap partP = P:=⟨_,rfl⟩;rw [hP] at HO htk;have HPP:=zjp hP; clear hP;have HO1:=zjp (HO.out.below ((Below.refl _ _).alloc xnl (.cells #[.int .u8 (x.toNat:Int),.int .u8 (y.toNat:Int)] 5)));have HR1:=zjp (reads_row (xs:=[x,y].flatMap encB) (n:=2) (c:=2) (heap_alloc_new wr (.cells #[.int .u8 (x.toNat:Int),.int .u8 (y.toNat:Int)] 5)) rfl);have hz0:=HO.out.2.size;have hlen:P.length + ([x,y]:List UInt8).length≤1000000000:=by simp only [List.length_cons,List.length_nil]; omega
   have hlen2:(P ++ [x,y]).length + t.length≤1000000000:=by rw [List.length_append]; simp only [List.length_cons,List.length_nil]; omega
   go_wp2_with (at_builtin; first | (refine zcr rfl (.tmp 19) (.tmp 27) 175 rfl 5 (.int .u8 0) 1 1 encB (fun _=>rfl) one_encB underlying175 infoBy rfl (by decide) (by decide) (w0:=W) (v:=u5) (A:=P) (B:=[x,y]) rfl HO1.out rfl HR1.out hlen ?_; intro v2 w2 ho2 hk2 hz2) | (refine zg7 rfl (.tmp 29) (.tmp 30) 175 9 rfl 5 underlying175 underlying9 infoBy (w0:=W) (v:=v2) (A:=P ++ [x,y]) t rfl ho2 rfl hlen2 ?_; intro v3 w3 ho3 hz3))
   go_roundw
   case rel=>exact ⟨k + 1,by go_num,by omega,by rw [HTs.out,List.flatMap_append,HPP.out,List.flatMap_cons,List.flatMap_nil,List.append_nil,HP.out,← List.append_assoc]; exact ho3⟩
   case measure=>simp [intOf]; omega
  ·have hq:decide ((k:Int) < L.length) = false:=by simp; omega
   have htk:=zhq L fun u hu=>HL.out u hu
   rw [List.take_of_length_le (by omega)] at HO;have hz0:=HO.out.2.size;have hk2:wr.heap[w.heap.size]? = some (.cells #[.int .u64 ka,.int .u64 kb] 41 (0,0)):=zab HO.out.2 (zaa HK.out) HK.out;obtain ⟨k0,k1⟩:=zae hk2;go_wp2_with fail
   refine (ssum_any _ ka kb _ (L.flatMap partP) _ (OwnV.vec (size:=1) (enc:=encB) (fun _=>rfl) HO.out) (by omega)).mono ?_
   rintro e w2 ⟨rfl,hb2⟩;go_wp2_with fail
   go_ret;exact ⟨rfl,HB0.out.trans ((HO.out.2.mono HB0.out.size).trans (hb2.mono (by have:=HB0.out.size; omega)))⟩
theorem zbi {P:Program} {md:Region.Mode} {ops:Array Oper} {Q:Exit→Act→World→Prop} {S:World→Prop} {k fuel:Nat} {listed:Array Bool} {a:Act} {W:World} (h:∀ w',w' = W→zc5 P md ops Q S k fuel listed a w'):zc5 P md ops Q S k fuel listed a W:=h W rfl
theorem zdb (ka kb:Int) (x y:List UInt8) (hx:x.length≤60000) (hy:y.length≤60000) (w:World) (g:Nat) (h:w.heap[g]? = some (.cells #[zal x,zal y] 9 (0,0))) :
  Calls prog 220 #[.agg #[.int .u64 ka,.int .u64 kb],.slice (some ⟨g,0,none⟩) 2 2] w fun e w'=>e = .returned (.int .u64 (zde ka kb [x,y]))∧Below w.heap.size w w':=by
 refine sparts_any zav ka kb _ [x,y] w ⟨_,2,rfl,by simp,fun _=>⟨g,0,rfl,trivial,zaa h,fun j z hj i u hu=>?_⟩⟩ (by intro t ht; simp at ht; rcases ht with rfl | rfl <;> omega) (by simp)
 rw [cell_of_row _ _ _ _ _ _ h]
 match j,i,hj,hu with
 | 0,0,hj,hu=>simp at hj; subst hj; simpa using hu
 | 1,0,hj,hu=>simp at hj; subst hj; simpa using hu
 | 0,i + 1,hj,hu=>simp at hu
 | 1,i + 1,hj,hu=>simp at hu
 | j + 2,_,hj,_=>simp at hj
theorem sderive_any (ka kb:Int) (l:List UInt8) (w:World) (hl:l.length≤60000) :
  Calls prog 182 #[.agg #[.int .u64 ka,.int .u64 kb],zal l] w fun e w'=>e = .returned (.agg #[.int .u64 (zeo ka kb l).1,.int .u64 (zeo ka kb l).2])∧Below w.heap.size w w':=by
 obtain ⟨p,hp⟩:∃ p,zde ka kb [l,[97]] = p:=⟨_,rfl⟩;obtain ⟨q,hq⟩:∃ q,zde ka kb [l,[98]] = q:=⟨_,rfl⟩;have hpq:zeo ka kb l = (p,q):=by rw [← hp,← hq]; rfl
 rw [hpq];have HP:=zjp hp; have HQ:=zjp hq;clear hp hq hpq;go_enter func182,ntmps182
 go_wp2_with fail
 refine zam (fun W hW=>?_)
 have hb0:=xam hW
 have hk0:W.heap[w.heap.size]? = some (.cells #[.int .u64 ka,.int .u64 kb] 41 (0,0)):=by rw [hW]; exact zaf (zac rfl)
 have hz0:W.heap[w.heap.size + 1]? = some (.cells #[.int .u64 0,.int .u64 0] 41 (0,0)):=by rw [hW]; exact zac (by simp)
 have hW0:=zaa hk0;obtain ⟨k0,k1⟩:=zae hk0;clear hW;have bD:Below W.heap.size W W.drew:=(Below.refl _ _).drew;refine wp_region_noPanic ?_
 refine zat (by kernel_rfl) (fun w'=>w'.cell? ⟨w.heap.size,0,none⟩ = some (.int .u64 ka)∧w'.cell? ⟨w.heap.size,1,none⟩ = some (.int .u64 kb)) 9 (⟨k0,k1⟩) (fun hHeld=>?_)
 refine tK 0 (h:=?_);refine tK 1 (h:=?_);refine tK 4 (h:=?_);refine tK 5 (h:=?_);refine zbf (rs:=[2,6]) (by kernel_rfl) (by simp) ?_
 refine AllReadyK.cons rfl (fun K hK=>?_) (AllReadyK.cons rfl (fun K hK=>?_) AllReadyK.nil)
 focus
  go_simp
  refine zbe hK (⟨((bD.alloc bD.size _).cell (p:=⟨w.heap.size,0,none⟩) hW0).trans k0,((bD.alloc bD.size _).cell (p:=⟨w.heap.size,1,none⟩) hW0).trans k1⟩) (fun hHeld=>?_)
  clear hK K
  refine zbi (fun W1 hW1=>?_)
  have b1:Below W.heap.size W W1:=by rw [hW1]; exact bD.alloc bD.size (.cells #[zal l,zal [97]] 9)
  have g1:W1.heap[W.heap.size]? = some (.cells #[zal l,zal [97]] 9 (0,0)):=by rw [hW1]; exact zac rfl
  clear hW1;refine zbf (rs:=[3,6]) (by kernel_rfl) (by simp) ?_
  refine AllReadyK.cons rfl (fun K hK=>?_) (AllReadyK.cons rfl (fun K hK=>?_) AllReadyK.nil)
  focus
   go_simp;refine (zdb ka kb l [97] hl (by decide) _ _ g1).mono ?_;rintro e w2 ⟨rfl,hb⟩;have b2:=b1.trans (hb.mono b1.size);clear hb
   refine zbe hK (⟨(b2.cell (p:=⟨w.heap.size,0,none⟩) hW0).trans k0,(b2.cell (p:=⟨w.heap.size,1,none⟩) hW0).trans k1⟩) (fun hHeld=>?_)
   clear hK K
   refine xrK 6 rfl fun K hK=>?_
   go_simp
   refine zbe hK (⟨((b2.alloc b2.size _).cell (p:=⟨w.heap.size,0,none⟩) hW0).trans k0,((b2.alloc b2.size _).cell (p:=⟨w.heap.size,1,none⟩) hW0).trans k1⟩) (fun hHeld=>?_)
   clear hK K
   refine zbi (fun W3 hW3=>?_)
   have b3:Below W.heap.size W W3:=by rw [hW3]; exact b2.alloc b2.size (.cells #[zal l,zal [98]] 9)
   have g3:W3.heap[w2.heap.size]? = some (.cells #[zal l,zal [98]] 9 (0,0)):=by rw [hW3]; exact zac rfl
   clear hW3
  rotate_left 1
  focus
   go_simp
   refine zbe hK (⟨((b1.alloc b1.size _).cell (p:=⟨w.heap.size,0,none⟩) hW0).trans k0,((b1.alloc b1.size _).cell (p:=⟨w.heap.size,1,none⟩) hW0).trans k1⟩) (fun hHeld=>?_)
   clear hK K
   refine zbi (fun W2 hW2=>?_)
   have b2:Below W.heap.size W W2:=by rw [hW2]; exact b1.alloc b1.size (.cells #[zal l,zal [98]] 9)
   have g3:W2.heap[W1.heap.size]? = some (.cells #[zal l,zal [98]] 9 (0,0)):=by rw [hW2]; exact zac rfl
   have g1':W2.heap[W.heap.size]? = some (.cells #[zal l,zal [97]] 9 (0,0)):=by rw [hW2]; exact zaf g1
   clear hW2
   refine xrK 3 rfl fun K hK=>?_
   go_simp;refine (zdb ka kb l [97] hl (by decide) _ _ g1').mono ?_;rintro e W3 ⟨rfl,hb⟩;have b3:=b2.trans (hb.mono b2.size);have g3:=zab hb (zaa g3) g3;clear hb
   refine zbe hK (⟨(b3.cell (p:=⟨w.heap.size,0,none⟩) hW0).trans k0,(b3.cell (p:=⟨w.heap.size,1,none⟩) hW0).trans k1⟩) (fun hHeld=>?_)
   clear hK K
 rotate_left 2
 focus
  go_simp
  refine zbe hK (⟨((bD.alloc bD.size _).cell (p:=⟨w.heap.size,0,none⟩) hW0).trans k0,((bD.alloc bD.size _).cell (p:=⟨w.heap.size,1,none⟩) hW0).trans k1⟩) (fun hHeld=>?_)
  clear hK K
  refine zbi (fun W1 hW1=>?_)
  have b1:Below W.heap.size W W1:=by rw [hW1]; exact bD.alloc bD.size (.cells #[zal l,zal [98]] 9)
  have g3:W1.heap[W.heap.size]? = some (.cells #[zal l,zal [98]] 9 (0,0)):=by rw [hW1]; exact zac rfl
  clear hW1
  refine xrK 2 rfl fun K hK=>?_
  go_simp
  refine zbe hK (⟨((b1.alloc b1.size _).cell (p:=⟨w.heap.size,0,none⟩) hW0).trans k0,((b1.alloc b1.size _).cell (p:=⟨w.heap.size,1,none⟩) hW0).trans k1⟩) (fun hHeld=>?_)
  clear hK K
  refine zbi (fun W2 hW2=>?_)
  have b2:Below W.heap.size W W2:=by rw [hW2]; exact b1.alloc b1.size (.cells #[zal l,zal [97]] 9)
  have g1:W2.heap[W1.heap.size]? = some (.cells #[zal l,zal [97]] 9 (0,0)):=by rw [hW2]; exact zac rfl
  have g3':W2.heap[W.heap.size]? = some (.cells #[zal l,zal [98]] 9 (0,0)):=by rw [hW2]; exact zaf g3
  clear hW2
  refine xrK 3 rfl fun K hK=>?_
  go_simp;refine (zdb ka kb l [97] hl (by decide) _ _ g1).mono ?_;rintro e W3 ⟨rfl,hb⟩;have b3:=b2.trans (hb.mono b2.size);have g3:=zab hb (zaa g3') g3';clear hb
  refine zbe hK (⟨(b3.cell (p:=⟨w.heap.size,0,none⟩) hW0).trans k0,(b3.cell (p:=⟨w.heap.size,1,none⟩) hW0).trans k1⟩) (fun hHeld=>?_)
  clear hK K
 all_goals
  refine xrK 7 rfl fun K hK=>?_
  go_simp;refine (zdb ka kb l [98] hl (by decide) _ _ g3).mono ?_; rintro e w4 ⟨rfl,hb⟩; have b4:=b3.trans (hb.mono b3.size); clear hb; rw [HP.out,HQ.out]
  refine zbe hK (⟨(b4.cell (p:=⟨w.heap.size,0,none⟩) hW0).trans k0,(b4.cell (p:=⟨w.heap.size,1,none⟩) hW0).trans k1⟩) (fun hHeld=>?_)
  clear hK K;refine tK 8 (h:=?_);have hz4:=zab b4 (zaa hz0) hz0;have hz5:=zaa hz4;obtain ⟨z0,z1⟩:=zae hz4;have y0:=frozen_of_row _ _ 0 _ _ hz4;have y1:=frozen_of_row _ _ 1 _ _ hz4
  refine xrK 9 rfl fun K hK=>?_
  go_simp;refine zas hK (by decide) ?_;clear hK K;refine zar (by kernel_rfl) ?_ _;refine NoPanic.normal ?_;go_wp2_with fail
  exact za4 rfl rfl (zad (i:=1) (v:=.int .u64 q) (zad (i:=0) (v:=.int .u64 p) hz4)) underlying41 rfl (by kernel_rfl)
   ⟨rfl,((hb0.trans (b4.mono hb0.size)).setCell (p:=⟨w.heap.size + 1,0,none⟩) (Nat.le_succ _) _).setCell (p:=⟨w.heap.size + 1,1,none⟩) (Nat.le_succ _) _⟩
end
section
open Go.RowKit
theorem ziy (n:Int) (w:World) (hn:-9223372036854775808≤n) (hn2:n≤9223372036854775807) :
  Calls prog 136 #[.int .i64 n] w fun e w'=>e = .returned (.bool (zc6 n))∧w = w':=by
 unfold zc6;by_cases h1:64≤n
 ·by_cases h2:n≤512
  ·have e1:decide ((64:Int)≤n) = true:=by simpa using h1
   have e2:decide (n≤(512:Int)) = true:=by simpa using h2
   rw [e1,e2];go_enter func136,ntmps136
   go_wp2_with fail
   go_ret;exact ⟨rfl,rfl⟩
  ·have e1:decide ((64:Int)≤n) = true:=by simpa using h1
   have e2:decide (n≤(512:Int)) = false:=by simpa using h2
   rw [e1,e2];go_enter func136,ntmps136
   go_wp2_with fail
   go_ret;exact ⟨rfl,rfl⟩
 ·have e1:decide ((64:Int)≤n) = false:=by simpa using h1
  rw [e1];go_enter func136,ntmps136
  go_wp2_with fail
  go_ret;exact ⟨rfl,rfl⟩
abbrev zc2 (x:Int):List Value:=[.int .u64 x]
theorem made_words (m:Nat):madeCells #[.int .u64 0] m = ((List.replicate m (0:Int)).flatMap zc2).toArray:=by
 apply Array.ext'
 have:∀ k,(List.replicate k (0:Int)).flatMap zc2 = List.replicate k (.int .u64 0):=by
  intro k; induction k with
  | zero=>rfl
  | succ k ih=>rw [List.replicate_succ,List.flatMap_cons,ih]; rfl
 rw [this];unfold madeCells;rw [Array.toList_map,Array.toList_range]
 refine List.ext_getElem (by simp) fun i h1 h2=>?_
 simp [Nat.mod_one]
def NewPost (n:Int) (w:World) (e:Ending) (w':World):Prop:=∃ (g m:Nat),e = .returned (.tuple #[.agg #[.int .i64 n,.slice (some ⟨g,0,none⟩) m m],.int .i64 0])∧n = 64 * m∧w.heap.size≤g∧w'.heap[g]? = some (.cells ((ze1 n).flatMap zc2).toArray 39 (0,0))∧Below w.heap.size w w'
theorem infoU:(prog.info? 39).map (fun i=>(i.zero,i.size,i.bytes)) = some (some (.int .u64 0),1,8):=by kernel_rfl
theorem zg2 (n:Int) (w:World) (h:zc6 n = true):Calls prog 91 #[.int .i64 n] w (NewPost n w):=by
 have h0:=h;simp only [zc6,Bool.and_eq_true,decide_eq_true_iff,beq_iff_eq] at h0;obtain ⟨⟨h1,h2⟩,h3⟩:=h0;obtain ⟨m,hm⟩:∃ m:Nat,n = 64 * m:=⟨(n / 64).toNat,by omega⟩;have hdiv:n / 64 = (m:Int):=by omega
 have hz:ze1 n = List.replicate m 0:=by unfold ze1; rw [hdiv]; rfl
 have hmk:=run_make_row' (P:=prog) 54 39 (.int .u64 0) 8 underlying54 infoU rfl .i64 .i64 m (by omega) (by omega);rw [made_words] at hmk;have HR:=zjp h; have HM:=zjp hm; have HZ:=zjp hz;clear h hm h3 hz;go_enter func91,ntmps91
 go_wp2_with fail
 refine (ziy n _ (by omega) (by omega)).mono ?_;rw [HR.out];rintro e w1 ⟨rfl,rfl⟩;go_wp2_with fail
 exact zah rfl rfl (zaf (zac rfl)) underlying56 rfl (by kernel_rfl)
  ⟨w.heap.size + 1,m,rfl,HM.out,Nat.le_succ _,by rw [HZ.out]; exact zac (by simp),((Below.refl _ _).alloc xnl _).alloc (by simp) _⟩
def BitsAt (w:World) (S:Nat→Prop) (v:Value) (b:BitsL):Prop:=∃ s,v = .agg #[.int .i64 b.len,s]∧Vec w S 1 zc2 s b.words
def zap (b:BitsL):Bool:=zc6 b.len && ((b.words.length:Int) == b.len / 64)
theorem zfk (S:Nat→Prop) (v:Value) (b:BitsL) (w:World) (h:BitsAt w S v b) (hn:-9223372036854775808≤b.len) (hn2:b.len≤9223372036854775807) :
  Calls prog 97 #[v] w fun e w'=>e = .returned (.bool (zap b))∧Below w.heap.size w w':=by
 obtain ⟨s,rfl,hv⟩:=h;obtain ⟨a,cap,rfl⟩:=hv.slice;clear hv;unfold zap;cases hr:zc6 b.len
 ·have HR:=zjp hr; clear hr
  go_enter func97,ntmps97
  go_wp2_with fail
  refine (ziy _ _ hn hn2).mono ?_;rw [HR.out];rintro e w1 ⟨rfl,rfl⟩;go_wp2_with fail
  go_ret;exact ⟨rfl,(Below.refl _ _).alloc xnl _⟩
 ·have h0:=hr
  simp only [zc6,Bool.and_eq_true,decide_eq_true_iff,beq_iff_eq] at h0;obtain ⟨⟨h1,h2⟩,h3⟩:=h0;have HR:=zjp hr; clear hr h3;go_enter func97,ntmps97
  go_wp2_with fail
  refine (ziy _ _ hn hn2).mono ?_;rw [HR.out];rintro e w1 ⟨rfl,rfl⟩;go_wp2_with fail
  go_ret;exact ⟨rfl,(Below.refl _ _).alloc xnl _⟩
theorem bcheck_yes (p:ParL) (w:World) (h:ParOk p) :
  Calls prog 63 #[.agg #[.int .i64 p.len,.int .i64 p.hashes,.int .i64 p.salt]] w fun e w'=>e = .returned (.int .i64 0)∧Below w.heap.size w w':=by
 have hr:=h.right;have e1:decide (p.hashes < (1:Int)) = false:=by have:=h.h1; simp; omega
 have e2:decide ((16:Int) < p.hashes) = false:=by have:=h.h2; simp; omega
 have e3:decide (p.salt < (-1:Int)) = false:=by have:=h.s1; simp; omega
 have e4:decide ((5:Int)≤p.salt) = false:=by have:=h.s2; simp; omega
 clear h;go_enter func63,ntmps63
 go_wp2_with fail
 refine (zg2 _ _ hr).mono ?_;rintro e w1 ⟨g,m,rfl,-,hg,-,hb⟩;have HB:=zjp (xbt hb);have HX:=zjp (xbn hb);clear hb hg;have z0:=zaa HX.out;obtain ⟨p0,p1,p2⟩:=zao HX.out;go_wp2_with fail
 go_ret;exact ⟨rfl,HB.out.alloc HB.out.size _⟩
end
section
open Go.RowKit
theorem za5 {α:Type} (l:List α) (d:α) {i:Nat} (h:i < l.length):l.getD i d = l[i]:=by rw [List.getD,List.getElem?_eq_getElem h]; rfl
def zf1 (x y:Int):Int:=if x < y then -1 else if y < x then 1 else 0
theorem cmp3_self (x:Int):zf1 x x = 0:=by unfold zf1; simp
theorem cmp3_eq {x y:Int} (h:zf1 x y = 0):x = y:=by
 unfold zf1 at h;split at h
 ·simp at h
 ·split at h
  ·simp at h
  ·omega
def cmpW:List Int→List Int→Int
 | [],[]=>0
 | [],_ :: _=>-1
 | _ :: _,[]=>1
 | x :: a,y :: b=>if zf1 x y = 0 then cmpW a b else zf1 x y
theorem cmpW_self:∀ a:List Int,cmpW a a = 0
 | []=>rfl
 | x :: a=>by unfold cmpW; rw [if_pos (cmp3_self x)]; exact cmpW_self a
theorem cmpW_eq:∀ a b:List Int,cmpW a b = 0→a = b
 | [],[],_=>rfl
 | [],_ :: _,h=>by simp [cmpW] at h
 | _ :: _,[],h=>by simp [cmpW] at h
 | x :: a,y :: b,h=>by
  unfold cmpW at h;split at h
  next h1=>rw [cmp3_eq h1,cmpW_eq a b h]
  next h1=>exact absurd h h1
theorem cmpW_nilr:∀ a:List Int,cmpW a [] = if a.length = 0 then 0 else 1
 | []=>rfl
 | _ :: _=>rfl
theorem cmpW_nill:∀ b:List Int,cmpW [] b = if b.length = 0 then 0 else -1
 | []=>rfl
 | _ :: _=>rfl
theorem cmpW_drop {a b:List Int} {k:Nat} (h1:k < a.length) (h2:k < b.length):cmpW (a.drop k) (b.drop k) = if zf1 (a.getD k 0) (b.getD k 0) = 0 then cmpW (a.drop (k + 1)) (b.drop (k + 1)) else zf1 (a.getD k 0) (b.getD k 0):=by
 rw [List.drop_eq_getElem_cons h1,List.drop_eq_getElem_cons h2,za5 _ _ h1,za5 _ _ h2]; rfl
def orN:List Int→Int
 | []=>0
 | x :: l=>if x = 0 then orN l else x
def zg1 (a b:BitsL):Int:=orN [zf1 a.len b.len,zf1 a.words.length b.words.length,cmpW a.words b.words]
theorem cmpB_self (a:BitsL):zg1 a a = 0:=by simp [zg1,orN,cmp3_self,cmpW_self]
theorem orN_zero:∀ {l:List Int},orN l = 0→∀ x∈l,x = 0
 | [],_,x,h=>by simp at h
 | y :: l,h,x,hx=>by
  unfold orN at h;split at h
  next h1 =>
   rcases List.mem_cons.1 hx with rfl | hx
   ·exact h1
   ·exact orN_zero h x hx
  next h1=>exact absurd h h1
theorem cmpB_eq {a b:BitsL} (h:zg1 a b = 0):a = b:=by
 obtain ⟨n,u⟩:=a; obtain ⟨m,v⟩:=b;have h1:=orN_zero h (zf1 n m) (by simp);have h2:=orN_zero h (cmpW u v) (by simp);rw [cmp3_eq h1,cmpW_eq _ _ h2]
end
section
open Go.RowKit Cal
attribute [local go_sem] zag zaj
theorem zai {P:Program} {f:FuncId} {args:Array Value} {W:World} {K:Ending→World→Prop} (h:∀ w',w' = W→Calls P f args w' K):Calls P f args W K:=h W rfl
end
section
open Go.RowKit
def popI (x:Int):Int:=((zfw 64 x.toNat:Nat):Int)
theorem popI_bd (x:Int):0≤popI x∧popI x≤64:=by have:=zfm 64 x.toNat; unfold popI; omega
def zdg (l:List Int):Int:=(l.map popI).sum
theorem sumPop_bd (l:List Int):0≤zdg l∧zdg l≤64 * l.length:=by
 induction l with
 | nil=>simp [zdg]
 | cons x l ih =>
  have:=popI_bd x;have e:zdg (x :: l) = popI x + zdg l:=rfl;rw [e,List.length_cons]; omega
theorem sumPop_app (a b:List Int):zdg (a ++ b) = zdg a + zdg b:=by
 induction a with
 | nil=>simp [zdg]
 | cons x a ih =>
  have e:zdg ((x :: a) ++ b) = popI x + zdg (a ++ b):=rfl;have e2:zdg (x :: a) = popI x + zdg a:=rfl;rw [e,e2,ih]; omega
theorem sumPop_more (l:List Int) (k:Nat) (h:k < l.length):zdg (l.take (k + 1)) = zdg (l.take k) + popI l[k]:=by
 rw [List.take_succ_eq_append_getElem h,sumPop_app]; simp [zdg]
def zcp (b:BitsL):Int:=if zap b = true then zdg b.words else 0
def zg4 (l:List Int):Prop:=∀ x∈l,0≤x∧x < 18446744073709551616
theorem zcs {b:BitsL} (h:zap b = true):(b.len = 64 * b.words.length∧64≤b.len∧b.len≤512)∧b.words.length≤8:=by
 unfold zap zc6 at h;simp only [Bool.and_eq_true,beq_iff_eq,decide_eq_true_eq] at h;omega
theorem zjl (b:BitsL):0≤zcp b∧zcp b≤512:=by
 unfold zcp;split
 ·next h=>have:=sumPop_bd b.words; have:=(zcs h).2; omega
 ·omega
theorem bcount_any (S:Nat→Prop) (v:Value) (b:BitsL) (w:World) (h:BitsAt w S v b) (h1:-9223372036854775808≤b.len) (h2:b.len≤9223372036854775807) (hw:zap b = true→zg4 b.words) :
  Calls prog 111 #[v] w fun e w'=>e = .returned (.int .i64 (zcp b))∧Below w.heap.size w w':=by
 obtain ⟨s,rfl,hv⟩:=h;obtain ⟨a,cap,rfl⟩:=hv.slice;have HV:=zjp hv;clear hv;obtain ⟨r,hr⟩:∃ r,zcp b = r:=⟨_,rfl⟩;rw [hr];obtain ⟨vb,hvb⟩:∃ vb,zap b = vb:=⟨_,rfl⟩;have HVb:=zjp hvb;go_enter func111,ntmps111
 go_wp2_with fail
 refine zai (fun W hW=>?_)
 have hb0:=xal hW
 have hx0:W.heap[w.heap.size]? = some (.cells #[.int .i64 b.len,.slice a b.words.length cap] 56 (0,0)):=by rw [hW]; exact zac rfl
 clear hW;refine (zfk S _ b W ⟨_,rfl,HV.out.below hb0⟩ h1 h2).mono ?_;rw [hvb];rintro e w1 ⟨rfl,hb⟩;have HB1:=zjp (hb0.trans (hb.mono hb0.size));have hx1:=zab hb (zaa hx0) hx0;have lx:=zaa hx1;obtain ⟨x0,x1⟩:=zae hx1;have HX:=zjp hx1;clear hb hb0 hx0 hx1 hvb;cases vb
 ·have hr0:(0:Int) = r:=by rw [← hr]; unfold zcp; rw [if_neg (by rw [HVb.out]; simp)]
  clear hr;go_wp2_with fail
  go_ret;subst hr0;exact ⟨rfl,HB1.out⟩
 ·have hsum:zdg b.words = r:=by rw [← hr]; unfold zcp; rw [if_pos HVb.out]
  have hl8:=(zcs HVb.out).2;have HW:=zjp (hw HVb.out);have HS:=zjp hsum;obtain ⟨n,hn⟩:∃ n,b.words.length = n:=⟨_,rfl⟩;clear hr hw hsum;have HV1:=zjp (HV.out.below HB1.out);have hnl:=zjp hn;rw [hn] at x1 HX hl8 HV1;clear hn;go_wp2_with fail
  go_loopw [3,12] (fun m i wr=>wr = w1∧∃ k:Nat,k≤n∧i = .int .i64 k∧∃ q:Int,m = .int .i64 q∧0≤q∧q≤64 * k∧Hid (zdg (b.words.take k) = q)) (fun _ i _=>n - (intOf i).toNat)
  case atStart=>exact ⟨rfl,0,by omega,rfl,0,rfl,by omega,by omega,zjp (by simp [zdg])⟩
  case round =>
   obtain ⟨rfl,k,hk,rfl,q,rfl,hq0,hq1,HQ⟩:=hrel;by_cases hlt:k < n
   ·have hq:decide ((k:Int) < n) = true:=by simp; omega
    have hlt':k < b.words.length:=by rw [hnl.out]; exact hlt
    obtain ⟨bb,off,e,lb,hc⟩:=HV1.out.get k hlt';cases e;have c0:=hc 0 _ rfl;rw [Nat.mul_one,Nat.add_zero] at c0;obtain ⟨x,hx⟩:∃ x,b.words[k] = x:=⟨_,rfl⟩;have hxw:=HW.out _ (List.getElem_mem hlt');have hmore:=sumPop_more b.words k hlt';rw [hx] at c0 hxw hmore;rw [HQ.out] at hmore;obtain ⟨t,rfl⟩:∃ t:Nat,x = t:=⟨x.toNat,by omega⟩;have hpi:popI (t:Int) = ((zfw 64 t:Nat):Int):=by unfold popI; rw [Int.toNat_natCast]
    rw [hpi] at hmore;obtain ⟨u,hu⟩:∃ u:Nat,zfw 64 t = u:=⟨_,rfl⟩;have hu64:u≤64:=by rw [← hu]; exact zfm 64 t
    rw [hu] at hmore;have HM:=zjp hmore;have hwr:IntKind.i64.wrap (q + (u:Int)) = q + (u:Int):=by rw [IntKind.wrap_i64]; omega
    clear hc hx hmore hpi HQ;go_wp2_with fail
    refine (pop64_any t _ (by omega)).mono ?_;rw [hu];rintro e w' ⟨rfl,rfl⟩;clear hu;go_wp2_with fail
    go_roundw
    case rel=>exact ⟨trivial,k + 1,by omega,by go_num,q + u,rfl,by omega,by omega,HM⟩
    case measure=>simp [intOf]; omega
   ·have hq:decide ((k:Int) < n) = false:=by simp; omega
    have hfin:q = r:=by
     rw [← HS.out,← HQ.out,List.take_of_length_le (by rw [hnl.out]; omega)]
    clear HQ;go_wp2_with fail
    go_ret;subst hfin;exact ⟨rfl,HB1.out⟩
end
section
structure GrpL where
 arr:BitsL
 mem:List Int
instance:Inhabited GrpL:=⟨⟨zbg,[]⟩⟩
def zho:List GrpL→Int→BitsL→List GrpL
 | [],i,b=>[⟨b,[i]⟩]
 | g :: L,i,b=>if zg1 g.arr b = 0 then ⟨g.arr,g.mem ++ [i]⟩ :: L else g :: zho L i b
theorem addG_new {i:Int} {b:BitsL}:∀ {L:List GrpL},(∀ g∈L,zg1 g.arr b≠0)→zho L i b = L ++ [⟨b,[i]⟩]
 | [],_=>rfl
 | g :: L,h=>by
  unfold zho;rw [if_neg (h g List.mem_cons_self),addG_new fun x hx=>h x (List.mem_cons_of_mem _ hx)]; rfl
theorem addG_at {i:Int} {b:BitsL}:∀ (L:List GrpL) (j:Nat) (hj:j < L.length),(∀ t,t < j→zg1 (L.getD t default).arr b≠0)→zg1 L[j].arr b = 0→zho L i b = L.set j ⟨L[j].arr,L[j].mem ++ [i]⟩:=by
 intro L;induction L with
 | nil=>intro j hj; simp at hj
 | cons g L ih =>
  intro j hj hl he;cases j with
  | zero=>unfold zho; rw [if_pos (by simpa using he)]; rfl
  | succ j =>
   unfold zho;rw [if_neg (by simpa using hl 0 (by omega)),ih j (by simpa using hj) (fun t ht=>by simpa using hl (t + 1) (by omega)) (by simpa using he)]
   rfl
structure GOk (L:List GrpL) (n:Nat):Prop where
 dist:L.Pairwise fun a b=>a.arr≠b.arr
 asc:L.Pairwise fun a b=>a.mem.getD 0 0 < b.mem.getD 0 0
 some:∀ g∈L,1≤g.mem.length
 low:∀ g∈L,∀ m∈g.mem,0≤m∧m < (n:Int)
 few:L.length≤n
 mems:∀ g∈L,g.mem.length≤n
 val:∀ g∈L,zap g.arr = true
theorem GOk.nil (n:Nat):GOk [] n:=⟨List.Pairwise.nil,List.Pairwise.nil,by simp,by simp,by simp,by simp,by simp⟩
theorem GOk.skip {L:List GrpL} {n:Nat} (h:GOk L n):GOk L (n + 1) :=
 ⟨h.dist,h.asc,h.some,fun g hg m hm=>⟨(h.low g hg m hm).1,by have:=(h.low g hg m hm).2; omega⟩,by have:=h.few; omega,fun g hg=>by have:=h.mems g hg; omega,h.val⟩
theorem zhv {L:List GrpL} {i:Int} {b:BitsL} {g:GrpL} (h:g∈zho L i b):g∈L∨(g = ⟨b,[i]⟩∧∀ x∈L,zg1 x.arr b≠0)∨∃ x∈L,zg1 x.arr b = 0∧g = ⟨x.arr,x.mem ++ [i]⟩:=by
 induction L with
 | nil=>simp [zho] at h; exact .inr (.inl ⟨h,by simp⟩)
 | cons c L ih =>
  unfold zho at h;split at h
  ·next h1 =>
   rcases List.mem_cons.1 h with h2 | h2
   ·exact .inr (.inr ⟨c,List.mem_cons_self,h1,h2⟩)
   ·exact .inl (List.mem_cons_of_mem _ h2)
  ·next h1 =>
   rcases List.mem_cons.1 h with h2 | h2
   ·exact .inl (by rw [h2]; exact List.mem_cons_self)
   ·rcases ih h2 with h3 | ⟨h3,h4⟩ | ⟨x,h3,h4⟩
    ·exact .inl (List.mem_cons_of_mem _ h3)
    ·refine .inr (.inl ⟨h3,fun x hx=>?_⟩)
     rcases List.mem_cons.1 hx with h5 | h5
     ·rw [h5]; exact h1
     ·exact h4 x h5
    ·exact .inr (.inr ⟨x,List.mem_cons_of_mem _ h3,h4⟩)
theorem addG_len (L:List GrpL) (i:Int) (b:BitsL):(zho L i b).length≤L.length + 1:=by
 induction L with
 | nil=>simp [zho]
 | cons c L ih =>
  unfold zho;split
  ·simp
  ·simp only [List.length_cons]; omega
theorem getD_snoc0 (l:List Int) (x:Int) (h:1≤l.length):(l ++ [x]).getD 0 0 = l.getD 0 0:=by
 cases l with
 | nil=>simp at h
 | cons y l=>rfl
theorem head_low {l:List Int} {n:Nat} (h1:1≤l.length) (h:∀ m∈l,0≤m∧m < (n:Int)):l.getD 0 0 < (n:Int):=by
 cases l with
 | nil=>simp at h1
 | cons y l=>exact (h y List.mem_cons_self).2
theorem addG_dist {L:List GrpL} {n:Nat} {i:Int} {b:BitsL} (h:L.Pairwise fun a b=>a.arr≠b.arr):(zho L i b).Pairwise fun a b=>a.arr≠b.arr:=by
 induction L with
 | nil=>simp [zho]
 | cons c L ih =>
  have h1:=List.pairwise_cons.1 h;unfold zho;split
  ·exact List.pairwise_cons.2 ⟨h1.1,h1.2⟩
  ·next hc =>
   refine List.pairwise_cons.2 ⟨fun g hg=>?_,ih h1.2⟩
   rcases zhv hg with h2 | ⟨h2,_⟩ | ⟨x,h2,_,h3⟩
   ·exact h1.1 g h2
   ·rw [h2]; intro e; exact hc (by rw [e]; exact cmpB_self b)
   ·rw [h3]; exact h1.1 x h2
theorem addG_asc {L:List GrpL} {n:Nat} {b:BitsL} (h:L.Pairwise fun a b=>a.mem.getD 0 0 < b.mem.getD 0 0) (hs:∀ g∈L,1≤g.mem.length) (hl:∀ g∈L,∀ m∈g.mem,0≤m∧m < (n:Int)):(zho L n b).Pairwise fun a b=>a.mem.getD 0 0 < b.mem.getD 0 0:=by
 induction L with
 | nil=>simp [zho]
 | cons c L ih =>
  have h1:=List.pairwise_cons.1 h;unfold zho;split
  ·refine List.pairwise_cons.2 ⟨fun g hg=>?_,h1.2⟩
   show (c.mem ++ [(n:Int)]).getD 0 0 < _;rw [getD_snoc0 _ _ (hs c List.mem_cons_self)];exact h1.1 g hg
  ·refine List.pairwise_cons.2 ⟨fun g hg=>?_,ih h1.2 (fun g hg=>hs g (List.mem_cons_of_mem _ hg)) (fun g hg=>hl g (List.mem_cons_of_mem _ hg))⟩
   rcases zhv hg with h2 | ⟨h2,_⟩ | ⟨x,h2,_,h3⟩
   ·exact h1.1 g h2
   ·rw [h2]; exact head_low (hs c List.mem_cons_self) (hl c List.mem_cons_self)
   ·rw [h3]
    show _ < (x.mem ++ [(n:Int)]).getD 0 0;rw [getD_snoc0 _ _ (hs x (List.mem_cons_of_mem _ h2))];exact h1.1 x h2
theorem GOk.add {L:List GrpL} {n:Nat} {b:BitsL} (h:GOk L n) (hv:zap b = true):GOk (zho L n b) (n + 1):=by
 refine ⟨addG_dist (n:=n) h.dist,addG_asc h.asc h.some h.low,fun g hg=>?_,fun g hg m hm=>?_,?_,fun g hg=>?_,fun g hg=>?_⟩
 ·rcases zhv hg with h2 | ⟨h2,_⟩ | ⟨x,h2,_,h3⟩
  ·exact h.some g h2
  ·rw [h2]; simp
  ·rw [h3]; simp
 ·rcases zhv hg with h2 | ⟨h2,_⟩ | ⟨x,h2,_,h3⟩
  ·have:=h.low g h2 m hm; omega
  ·rw [h2] at hm; simp at hm; omega
  ·rw [h3] at hm
   rcases List.mem_append.1 hm with h4 | h4
   ·have:=h.low x h2 m h4; omega
   ·simp at h4; omega
 ·have:=addG_len L n b; have:=h.few; omega
 ·rcases zhv hg with h2 | ⟨h2,_⟩ | ⟨x,h2,_,h3⟩
  ·have:=h.mems g h2; omega
  ·rw [h2]; simp
  ·rw [h3]; have:=h.mems x h2; simp; omega
 ·rcases zhv hg with h2 | ⟨h2,_⟩ | ⟨x,h2,_,h3⟩
  ·exact h.val g h2
  ·rw [h2]; exact hv
  ·rw [h3]; exact h.val x h2
def zc1 (L:List GrpL):Nat→List BitsL→List GrpL
 | _,[]=>L
 | n,b :: C=>zc1 (if zap b = true then zho L n b else L) (n + 1) C
def zce (C:List BitsL):List GrpL:=zc1 [] 0 C
theorem GOk.all:∀ (C:List BitsL) {L:List GrpL} {n:Nat},GOk L n→GOk (zc1 L n C) (n + C.length)
 | [],_,_,h=>h
 | b :: C,L,n,h=>by
  unfold zc1;have:n + (b :: C).length = (n + 1) + C.length:=by simp; omega
  rw [this];refine GOk.all C ?_;split
  ·next hv=>exact h.add hv
  ·exact h.skip
theorem groups_ok (C:List BitsL):GOk (zce C) C.length:=by have:=GOk.all C (GOk.nil 0); rwa [Nat.zero_add] at this
def zbz (l:List Int) (x:Int):Int × Bool:=(((l.countP fun y=>decide (x < y):Nat):Int),decide (l.countP (fun y=>decide (y = x)) = 1))
theorem count_split (l:List Int) (i:Nat) (hi:i < l.length) (p:Int→Bool):l.countP p = (l.take i).countP p + (if p l[i] = true then 1 else 0) + (l.drop (i + 1)).countP p:=by
 have h1:l.countP p = (l.take i ++ l[i] :: l.drop (i + 1)).countP p:=by rw [← List.drop_eq_getElem_cons hi,List.take_append_drop]
 rw [h1,List.countP_append,List.countP_cons]; omega
theorem count_one {l:List Int} {i:Nat} (hi:i < l.length):l.countP (fun y=>decide (y = l[i])) = 1 ↔ ∀ k,(hk:k < l.length)→k≠i→l[k]≠l[i]:=by
 have h2:l.countP (fun y=>decide (y = l[i])) = (l.take i).countP (fun y=>decide (y = l[i])) + 1 + (l.drop (i + 1)).countP (fun y=>decide (y = l[i])):=by
  rw [count_split l i hi]; simp
 rw [h2];constructor
 ·intro h k hk hki e
  have h3:(l.take i).countP (fun y=>decide (y = l[i])) = 0:=by omega
  have h4:(l.drop (i + 1)).countP (fun y=>decide (y = l[i])) = 0:=by omega
  rw [List.countP_eq_zero] at h3 h4
  rcases Nat.lt_or_ge k i with h5 | h5
  ·have hm:l[k]∈l.take i:=List.mem_iff_getElem.2 ⟨k,by rw [List.length_take]; omega,by rw [List.getElem_take]⟩
   exact h3 _ hm (by simpa using e)
  ·have hm:l[k]∈l.drop (i + 1):=List.mem_iff_getElem.2 ⟨k - (i + 1),by rw [List.length_drop]; omega,by rw [List.getElem_drop]; congr 1; omega⟩
   exact h4 _ hm (by simpa using e)
 ·intro h
  have h3:(l.take i).countP (fun y=>decide (y = l[i])) = 0:=by
   rw [List.countP_eq_zero];intro y hy;obtain ⟨k,hk,rfl⟩:=List.mem_iff_getElem.1 hy;rw [List.length_take] at hk;rw [List.getElem_take];simpa using h k (by omega) (by omega)
  have h4:(l.drop (i + 1)).countP (fun y=>decide (y = l[i])) = 0:=by
   rw [List.countP_eq_zero];intro y hy;obtain ⟨k,hk,rfl⟩:=List.mem_iff_getElem.1 hy;rw [List.length_drop] at hk;rw [List.getElem_drop];simpa using h (i + 1 + k) (by omega) (by omega)
  omega
def zaz (G:List GrpL):List Int:=G.map fun g=>(g.mem.length:Int)
def zbx (G:List GrpL):Int:=((zaz G).map fun x=>if (zbz (zaz G) x).2 = true then x else 0).sum
abbrev zdl:=List UInt8 × Int
def zc3 (D:List zdl):List Int:=D.map Prod.snd
def hitE (D:List zdl) (r:Int) (d:zdl):Bool:=decide (zbz (zc3 D) d.2 = (r,true))
def zfe (S:List Int) (D:List zdl) (i:Nat):List (Int × List UInt8) :=
 if (zbz S (S.getD i 0)).2 = true then (D.filter (hitE D (zbz S (S.getD i 0)).1)).map fun d=>((i:Int),d.1) else []
def zd2 (S:List Int) (D:List zdl):List (Int × List UInt8):=(List.range S.length).flatMap (zfe S D)
theorem rank_one {l:List Int} {i k:Nat} (hi:i < l.length) (hk:k < l.length) {r:Int} (h1:zbz l l[i] = (r,true)) (h2:zbz l l[k] = (r,true)):i = k:=by
 by_cases e:i = k
 ·exact e
 exfalso;have s1:l.countP (fun y=>decide (y = l[i])) = 1:=by have:=congrArg Prod.snd h1; simpa [zbz] using this
 have hne:l[k]≠l[i]:=(count_one hi).1 s1 k hk (Ne.symm e);have r1:((l.countP fun y=>decide (l[i] < y):Nat):Int) = r:=by have:=congrArg Prod.fst h1; simpa [zbz] using this
 have r2:((l.countP fun y=>decide (l[k] < y):Nat):Int) = r:=by have:=congrArg Prod.fst h2; simpa [zbz] using this
 have key:∀ (a b:Int),b∈l→a < b→(l.countP fun y=>decide (b < y)) < (l.countP fun y=>decide (a < y)):=by
  intro a b hb hab
  have h3:(l.countP fun y=>decide (b < y)) + (l.countP fun y=>decide (y = b))≤l.countP fun y=>decide (a < y):=by
   clear hb h1 h2 s1 r1 r2 hne hi hk;induction l with
   | nil=>simp
   | cons c l ih =>
    rw [List.countP_cons,List.countP_cons,List.countP_cons];by_cases h4:b < c
    ·have h5:c≠b:=by omega
     have h6:a < c:=by omega
     simp [h4,h5,h6]; omega
    ·by_cases h5:c = b
     ·have h6:a < c:=by omega
      simp [h4,h5,h6]; have:a < b:=hab; simp [this]; omega
     ·simp [h4,h5]; split <;> omega
  have h4:0 < l.countP fun y=>decide (y = b):=List.countP_pos_iff.2 ⟨b,hb,by simp⟩
  omega
 rcases (by omega:l[i] < l[k]∨l[k] < l[i]) with h | h
 ·have:=key _ _ (List.getElem_mem hk) h; omega
 ·have:=key _ _ (List.getElem_mem hi) h; omega
def zgw (G:List GrpL) (V:List (List UInt8)) (gs:List (Int × List UInt8)):Int:=(gs.map fun g=>(((G.getD g.1.toNat default).mem.countP fun m=>decide (V.getD m.toNat [] = g.2):Nat):Int)).sum
end
section
open Go.RowKit
theorem popK_next (r x:Nat):zfw (r + 1) x = zfw r x + (x / 2 ^ r) % 2:=by
 rw [zf4 r 1 x]; simp [zfw]
def bitN (ws:List Int) (i:Nat):Nat:=((ws.getD (i / 64) 0).toNat / 2 ^ (i % 64)) % 2
def bitsTo (ws:List Int) (i:Nat):Int:=zdg (ws.take (i / 64)) + ((zfw (i % 64) (ws.getD (i / 64) 0).toNat:Nat):Int)
theorem bitN_le (ws:List Int) (i:Nat):bitN ws i≤1:=by unfold bitN; omega
theorem bitsTo_next {ws:List Int} {i:Nat} (h:i < 64 * ws.length):bitsTo ws (i + 1) = bitsTo ws i + ((bitN ws i:Nat):Int):=by
 unfold bitsTo bitN;have hq:i / 64 < ws.length:=by omega
 rcases (by omega:(i + 1) % 64 = i % 64 + 1∧(i + 1) / 64 = i / 64∨(i + 1) % 64 = 0∧(i + 1) / 64 = i / 64 + 1∧i % 64 = 63) with ⟨h1,h2⟩ | ⟨h1,h2,h3⟩
 ·rw [h1,h2,popK_next]; omega
 ·rw [h1,h2,h3,sumPop_more ws (i / 64) hq]
  have e:popI ws[i / 64] = ((zfw 64 (ws.getD (i / 64) 0).toNat:Nat):Int):=by unfold popI; rw [List.getD,List.getElem?_eq_getElem hq]; rfl
  rw [e,popK_next 63];simp only [zfw];omega
theorem bitsTo_zero (ws:List Int):bitsTo ws 0 = 0:=by simp [bitsTo,zdg,zfw]
theorem bitsTo_all (ws:List Int):bitsTo ws (64 * ws.length) = zdg ws:=by
 unfold bitsTo;rw [show 64 * ws.length / 64 = ws.length by omega,show 64 * ws.length % 64 = 0 by omega,List.take_length];simp [zfw]
def lone (L:List Int) (i k:Nat):Bool:=(List.range k).all fun j=>decide (j = i) || decide (L.getD j 0≠L.getD i 0)
theorem lone_next (L:List Int) (i k:Nat):lone L i (k + 1) = (lone L i k && (decide (k = i) || decide (L.getD k 0≠L.getD i 0))):=by
 unfold lone; rw [List.range_succ,List.all_append]; simp
theorem lone_all {L:List Int} {i:Nat} (hi:i < L.length):lone L i L.length = (zbz L L[i]).2:=by
 show lone L i L.length = decide (L.countP (fun y=>decide (y = L[i])) = 1)
 rw [Bool.eq_iff_iff,decide_eq_true_eq,count_one hi];unfold lone;simp only [List.all_eq_true,List.mem_range,Bool.or_eq_true,decide_eq_true_eq];constructor
 ·intro h k hk hne e
  rcases h k hk with h1 | h1
  ·exact hne h1
  ·rw [za5 _ _ hk,za5 _ _ hi] at h1; exact h1 e
 ·intro h k hk
  by_cases e:k = i
  ·exact .inl e
  ·right; rw [za5 _ _ hk,za5 _ _ hi]; exact h k hk e
structure Alike (C C':List BitsL):Prop where
 len:C.length = C'.length
 val:∀ i,(h:i < C.length)→(h':i < C'.length)→zap C[i] = zap C'[i]
 eq:∀ i j,(h:i < C.length)→(h':i < C'.length)→(k:j < C.length)→(k':j < C'.length)→j < i→(zg1 C[j] C[i] = 0 ↔ zg1 C'[j] C'[i] = 0)
theorem zh1 {a b:BitsL} (h:zg1 a b = 0):zg1 b a = 0:=by rw [cmpB_eq h]; exact cmpB_self _
inductive Step (C C':List BitsL) (n:Nat):List GrpL→List GrpL→Prop where
 | nil:Step C C' n [] []
 | cons (j:Nat) (m:List Int) {L L':List GrpL} (hj:j < n) (h:j < C.length) (h':j < C'.length):Step C C' n L L'→Step C C' n (⟨C[j],m⟩ :: L) (⟨C'[j],m⟩ :: L')
theorem Step.more {C C':List BitsL} {n:Nat} {L L':List GrpL} (h:Step C C' n L L'):Step C C' (n + 1) L L':=by
 induction h with
 | nil=>exact .nil
 | cons j m hj h h' _ ih=>exact .cons j m (by omega) h h' ih
theorem Step.mem {C C':List BitsL} {n:Nat} {L L':List GrpL} (h:Step C C' n L L'):L.map GrpL.mem = L'.map GrpL.mem:=by
 induction h with
 | nil=>rfl
 | cons j m hj h h' _ ih=>rw [List.map_cons,List.map_cons,ih]
theorem Step.add {C C':List BitsL} {n:Nat} {L L':List GrpL} (ha:Alike C C') (hn:n < C.length) (hn':n < C'.length) (h:Step C C' n L L'):Step C C' (n + 1) (zho L n C[n]) (zho L' n C'[n]):=by
 induction h with
 | nil=>exact .cons n [(n:Int)] (by omega) hn hn' .nil
 | cons j m hj h h' hs ih =>
  unfold zho;have he:=ha.eq n j hn hn' h h' hj;by_cases hc:zg1 C[j] C[n] = 0
  ·rw [if_pos hc,if_pos (he.1 hc)]
   exact .cons j _ (by omega) h h' hs.more
  ·rw [if_neg hc,if_neg (fun e=>hc (he.2 e))]
   exact .cons j m (by omega) h h' ih
theorem Step.all {C C':List BitsL} (ha:Alike C C'):∀ (k n:Nat) (L L':List GrpL),n + k = C.length→Step C C' n L L'→Step C C' (n + k) (zc1 L n (C.drop n)) (zc1 L' n (C'.drop n)):=by
 intro k;induction k with
 | zero =>
  intro n L L' hk h;rw [List.drop_eq_nil_of_le (by omega),List.drop_eq_nil_of_le (by have:=ha.len; omega)];exact h
 | succ k ih =>
  intro n L L' hk h;have hn:n < C.length:=by omega
  have hn':n < C'.length:=by have:=ha.len; omega
  rw [List.drop_eq_getElem_cons hn,List.drop_eq_getElem_cons hn'];unfold zc1;rw [show n + (k + 1) = (n + 1) + k by omega,ha.val n hn hn'];refine ih (n + 1) _ _ (by omega) ?_;split
  ·exact h.add ha hn hn'
  ·exact h.more
theorem alike_mem {C C':List BitsL} (ha:Alike C C'):(zce C).map GrpL.mem = (zce C').map GrpL.mem:=by
 have h:=Step.all ha C.length 0 [] [] (by omega) .nil;exact h.mem
theorem sizesG_mem {G G':List GrpL} (h:G.map GrpL.mem = G'.map GrpL.mem):zaz G = zaz G':=by
 have e:∀ X:List GrpL,zaz X = (X.map GrpL.mem).map fun m=>(m.length:Int):=fun X=>by unfold zaz; rw [List.map_map]; rfl
 rw [e,e,h]
theorem singular_mem {G G':List GrpL} (h:G.map GrpL.mem = G'.map GrpL.mem):zbx G = zbx G':=by
 unfold zbx; rw [sizesG_mem h]
theorem hits_mem {G G':List GrpL} (h:G.map GrpL.mem = G'.map GrpL.mem) (V:List (List UInt8)) (gs:List (Int × List UInt8)):zgw G V gs = zgw G' V gs:=by
 unfold zgw;congr 1
 refine List.map_congr_left fun g _=>?_
 have e:∀ X:List GrpL,(X.getD g.1.toNat default).mem = (X.map GrpL.mem).getD g.1.toNat []:=fun X=>by
  rw [List.getD,List.getD,List.getElem?_map];cases X[g.1.toNat]? <;> rfl
 rw [e,e,h]
end
section
open Go.RowKit
theorem ins_int {P:Program} {w:World} {mty kt et:TypeId} {r:Nat} {es:Array MapEntry} {clock:Nat} (k:Int) (v:Value) (hm:P.underlying mty = some (.map kt et)) (hd:P.underlying kt = some (.int .i64)) (hb:w.heap[r]? = some (.map es clock)) (h1:Instr.findNow (.int .i64) (.int .i64 k) es.toList 0 = some none) :
  ∃ w',(Instr.mapUpdate mty (.map (some r)) (.int .i64 k) v).run P w = .ok () w'∧w'.heap[r]? = some (.map (es.push { key:=.int .i64 k,val:=v,born:=clock }) (clock + 1))∧w.grownBy w' (some r):=by
 refine ⟨{ w with heap:=w.heap.setIfInBounds r (.map (es.push { key:=.int .i64 k,val:=v,born:=clock }) (clock + 1)) },?_,(MapKept.heap_set hb).1,?_⟩
 ·simp [Instr.mapUpdate,run_underlying hm,MapKept.run_getObj_map hb,MapKept.run_checkKey hd (k:=.int .i64 k) (by simp [MapKept.IsKey]),MapKept.run_findKey hd h1,MapKept.run_setObj_map _ hb,Result.andThen]
 ·exact ⟨rfl,rfl,rfl,by simp,fun i _ hi=>(MapKept.heap_set hb).2 i (fun e=>hi (by rw [e]))⟩
end
section
open Go.RowKit
section
variable {P:Program}
end
theorem flat_takeK {α:Type} {k:Nat} {enc:α→List Value} (hk:∀ x,(enc x).length = k):∀ (L:List α) (i:Nat),(L.take i).flatMap enc = (L.flatMap enc).take (i * k)
 | [],i=>by simp
 | x :: L,0=>by simp
 | x :: L,i + 1=>by
  rw [List.take_succ_cons,List.flatMap_cons,List.flatMap_cons,flat_takeK hk L i,List.take_append,hk,Nat.succ_mul,show i * k + k - k = i * k by omega,List.take_of_length_le (l:=enc x) (by rw [hk]; omega)]
theorem flat_dropK {α:Type} {k:Nat} {enc:α→List Value} (hk:∀ x,(enc x).length = k):∀ (L:List α) (i:Nat),(L.drop i).flatMap enc = (L.flatMap enc).drop (i * k)
 | [],i=>by simp
 | x :: L,0=>by simp
 | x :: L,i + 1=>by
  rw [List.drop_succ_cons,List.flatMap_cons,flat_dropK hk L i,List.drop_append,hk,Nat.succ_mul,show i * k + k - k = i * k by omega,List.drop_eq_nil_of_le (show (enc x).length≤i * k + k by rw [hk]; omega)]; rfl
def zfu (B:Nat) (v:Value) (x:Nat):Prop:=B≤x∧some x≠v.ownBlock
section
variable {α:Type} {P:Program} {w:World} {ops:Array Oper} {rest:List Oper} {o:Oper} {a:Act} {Q:Exit→Act→World→Prop}
theorem zc4 (hgd:o.guard = none) (s x:Operand) (t:TypeId) (ho:o.op = .call { callee:=.builtin .append,args:=#[s,x],argTypes:=#[t,t] })
  (e:TypeId) (z:Value) (size bytes:Nat) (enc:α→List Value) (hk:∀ x,(enc x).length = size) (h1:∀ x,∀ u∈enc x,u.oneCell' = true) (ht:P.underlying t = some (.slice e)) (hinfo:(P.info? e).map (fun i=>(i.zero,i.size,i.bytes)) = some (some z,size,bytes))
  (hzs:z.cells.size = size) (hsz:0 < size) (hby:bytes≤128) {w0:World} {v u:Value} {A B:List α} (hs:a.eval s = v) (hown:OwnV e size enc w0 v A w) (hx:a.eval x = u) (hr:zcn w size u B.length (B.flatMap enc)) (hn:A.length + B.length≤1000000000)
  (h:∀ v' w',OwnV e size enc w0 v' (A ++ B) w'→(∀ k o,some k≠v.ownBlock→w.heap[k]? = some o→w'.heap[k]? = some o)→w.heap.size≤w'.heap.size→(v'.ownBlock = none∨v.ownBlock = v'.ownBlock∨v'.ownBlock = some w.heap.size)→wpList P ops Q rest (a.put o.dst v') w'):wpList P ops Q (o :: rest) a w:=by
 refine wpList_plain hgd fun K hK=>?_
 refine zdf s x t ho w0.heap.size e z size bytes ht hinfo hzs hsz v A.length (A.flatMap enc) hs hown.1 u B.length (B.flatMap enc) hx hr (fun u hu=>?_) (by unfold maxLen; omega) ?_ hown.2.size ?_
 ·obtain ⟨y,_,hy⟩:=List.mem_flatMap.1 hu
  exact h1 y u hy
 ·exact Nat.le_trans (Nat.mul_le_mul hn hby) (by decide)
 ·intro v' w' ho' hg hat
  refine hK _ _ (h v' w' ⟨by rw [List.length_append,List.flatMap_append]; exact ho',hown.2.grown hg hown.2.size fun k hk=>?_⟩ (fun k o hk hko=>(hg.block k (zaa hko) hk).trans hko) hg.size hat)
  rcases hown.1.2 with ⟨rfl,_⟩ | ⟨g,cap,cur,rfl,hg1,_⟩
  ·simp [Value.ownBlock] at hk
  ·have:g = k:=by simpa [Value.ownBlock] using hk
   omega
end
end
section
end
section
open Go.RowKit
structure BkV where
 h:Int
 a:Option Addr
 n:Nat
 c:Nat
 ids:List Int
instance:Inhabited BkV:=⟨⟨0,none,0,0,[]⟩⟩
theorem zc7 {w w':World} {B e size n:Nat} {v:Value} {xs:List Value} {r:Option Nat} (h:w.ownsRow B e size v n xs) (hk:∀ k o,some k≠r→w.heap[k]? = some o→w'.heap[k]? = some o) (hr:v.ownBlock = none∨v.ownBlock≠r):w'.ownsRow B e size v n xs:=by
 refine ⟨h.1,?_⟩
 rcases h.2 with h0 | ⟨g,cap,cur,hv,hg,hh,rest⟩
 ·exact .inl h0
 ·refine .inr ⟨g,cap,cur,hv,hg,hk g _ ?_ hh,rest⟩
  rcases hr with h1 | h1
  ·rw [hv] at h1; cases h1
  ·rw [hv] at h1; exact h1
theorem flat_setK {α:Type} {k:Nat} {enc:α→List Value} (hk:∀ x,(enc x).length = k) (L:List α) (j:Nat) (x:α) (hj:j < L.length):(L.set j x).flatMap enc = (L.flatMap enc).take (j * k) ++ enc x ++ (L.flatMap enc).drop ((j + 1) * k):=by
 rw [List.set_eq_take_append_cons_drop,if_pos hj,List.flatMap_append,List.flatMap_cons,flat_takeK hk,flat_dropK hk,List.append_assoc]
abbrev encIn (x:Int):List Value:=[.int .i64 x]
theorem encIn_flat (l:List Int):l.flatMap encIn = l.map (Value.int .i64):=by
 induction l with
 | nil=>rfl
 | cons x l ih=>rw [List.flatMap_cons,ih]; rfl
end
section
open Go.RowKit
theorem cell1 {w:World} {b:Nat} {x:Value} {t:TypeId} {fr:Nat × Nat} (h:w.heap[b]? = some (.cells #[x] t fr)):w.cell? ⟨b,0,none⟩ = some x:=by rw [cell_of_row _ _ _ _ _ _ h]; rfl
end
section
open Go.RowKit
structure KeptBut (T:Nat→Prop) (w w':World):Prop where
 os:w'.os = w.os
 tape:w'.tape = w.tape
 output:w'.output = w.output
 size:w.heap.size≤w'.heap.size
 block:∀ k,k < w.heap.size→¬ T k→w'.heap[k]? = w.heap[k]?
theorem KeptBut.refl (T:Nat→Prop) (w:World):KeptBut T w w:=⟨rfl,rfl,rfl,Nat.le_refl _,fun _ _ _=>rfl⟩
theorem KeptBut.trans {T:Nat→Prop} {a b c:World} (h:KeptBut T a b) (k:KeptBut T b c):KeptBut T a c :=
 ⟨k.os.trans h.os,k.tape.trans h.tape,k.output.trans h.output,Nat.le_trans h.size k.size,fun i hi ht=>(k.block i (Nat.lt_of_lt_of_le hi h.size) ht).trans (h.block i hi ht)⟩
theorem KeptBut.below {T:Nat→Prop} {a b:World} {B:Nat} (h:KeptBut T a b) (hB:∀ k,k < B→¬ T k) (hs:B≤a.heap.size):Below B a b:=⟨h.os,h.tape,h.output,h.size,fun k hk=>h.block k (by omega) (hB k hk)⟩
theorem KeptBut.ofBelow {T:Nat→Prop} {a b:World} (h:Below a.heap.size a b):KeptBut T a b:=⟨h.os,h.tape,h.output,h.size,fun k hk _=>h.block k hk⟩
theorem KeptBut.set {T:Nat→Prop} {a b:World} (h:KeptBut T a b) {p:Addr} (hp:T p.block) (v:Value):KeptBut T a (b.setCell p v) :=
 ⟨h.os,h.tape,h.output,by simpa [World.setCell] using h.size,fun k hk hn=>(heap_setCell_other _ _ _ _ (fun e=>hn (by rw [e]; exact hp))).trans (h.block k hk hn)⟩
theorem KeptBut.drew {T:Nat→Prop} {a b:World} (h:KeptBut T a b):KeptBut T a b.drew:=⟨h.os,h.tape,h.output,h.size,h.block⟩
theorem KeptBut.blk {T:Nat→Prop} {a b:World} (h:KeptBut T a b) {k:Nat} {o:Obj} (hk:¬ T k) (ho:a.heap[k]? = some o):b.heap[k]? = some o:=(h.block k (zaa ho) hk).trans ho
abbrev oneI (x:Int):Obj:=.cells #[.int .i64 x] 3 (0,0)
abbrev parC (p:ParL):Array Value:=#[.int .i64 p.len,.int .i64 p.hashes,.int .i64 p.salt]
structure ClosAt (w:World) (nb yb pb xb:Nat) (p:ParL) (x y:Int):Prop where
 n:w.heap[nb]? = some (oneI x)
 y:w.heap[yb]? = some (oneI y)
 p:w.heap[pb]? = some (.cells (parC p) 87 (0,0))
 x:∃ z,w.heap[xb]? = some (oneI z)
 ne1:nb≠yb
 ne2:nb≠pb
 ne3:nb≠xb
 ne4:xb≠yb
 ne5:xb≠pb
theorem bnext_any (nb yb pb xb:Nat) (p:ParL) (x y:Int) (w:World) (h:ClosAt w nb yb pb xb p x y) (hp:ParOk p) (hx:0≤x) (hx2:x < p.len) (hy:1≤y) (hy2:y≤1000) :
  Calls prog 242 #[.pointer (some ⟨nb,0,none⟩),.pointer (some ⟨yb,0,none⟩),.pointer (some ⟨pb,0,none⟩),.pointer (some ⟨xb,0,none⟩)] w fun e w' =>
   e = .returned (.int .i64 x)∧ClosAt w' nb yb pb xb p ((x + y) % p.len) y∧KeptBut (fun k=>k = nb∨k = xb) w w':=by
 obtain ⟨hn,hyy,hpp,⟨z,hz⟩,ne1,ne2,ne3,ne4,ne5⟩:=h;have hl1:=hp.len1; have hl2:=hp.len2;have hl0:p.len≠0:=by omega
 have hw0:IntKind.i64.wrap (x + y) = x + y:=by rw [IntKind.wrap_i64]; omega
 have hw:(IntKind.i64.wrap (x + y)).tmod p.len = (x + y) % p.len:=by rw [hw0,Int.tmod_eq_emod_of_nonneg (by omega)]
 clear hw0;have c0:=cell1 hn; have c1:=cell1 hyy; have c2:=cell1 hz;obtain ⟨q0,q1,q2⟩:=zao hpp;have f0:=frozen_of_row _ _ 0 _ _ hn; have f1:=frozen_of_row _ _ 0 _ _ hz;have z0:=zaa hn; have z1:=zaa hz;have H1:=zjp hn; have H2:=zjp hyy; have H3:=zjp hpp; have H4:=zjp hz;clear hn hyy hpp hz hp;go_enter func242,ntmps242
 go_wp2_with fail
 refine wp_region_noPanic ?_
 refine zat (by kernel_rfl) (fun w'=>w'.cell? ⟨nb,0,none⟩ = some (.int .i64 x)∧w'.cell? ⟨yb,0,none⟩ = some (.int .i64 y)∧w'.cell? ⟨pb,0,none⟩ = some (.int .i64 p.len)) 8 (⟨c0,c1,q0⟩) (fun hHeld=>?_)
 refine tK 0 (h:=?_);refine tK 1 (h:=?_);refine tK 2 (h:=?_);refine tK 3 (h:=?_);refine tK 4 (h:=?_);refine tK 5 (h:=?_);refine tK 6 (h:=?_);have g0:∀ v,(w.setCell ⟨xb,0,none⟩ v).cell? ⟨nb,0,none⟩ = some (.int .i64 x):=fun v=>by rw [cell1 (zan H1.out ne3)]
 have g1:∀ v,(w.setCell ⟨xb,0,none⟩ v).cell? ⟨yb,0,none⟩ = some (.int .i64 y):=fun v=>by rw [cell1 (zan H2.out (Ne.symm ne4))]
 have g2:∀ v,(w.setCell ⟨xb,0,none⟩ v).cell? ⟨pb,0,none⟩ = some (.int .i64 p.len):=fun v=>(zao (zan H3.out (Ne.symm ne5))).1
 refine xrK 7 rfl fun K hK=>?_
 go_simp
 refine zbe hK (⟨g0 _,g1 _,g2 _⟩) (fun hHeld=>?_)
 clear hK K;have g3:∀ v,(w.setCell ⟨xb,0,none⟩ v).frozen? ⟨nb,0,none⟩ = false:=fun v=>frozen_of_row _ _ 0 _ _ (zan H1.out ne3)
 refine xrK 8 rfl fun K hK=>?_
 go_simp;refine zas hK (by decide) ?_;clear hK K;refine zar (by kernel_rfl) ?_ _;refine NoPanic.normal ?_;clear g0 g1 g2 g3;have e1:=zad (i:=0) (v:=.int .i64 x) H4.out;have e2:((w.setCell ⟨xb,0,none⟩ (.int .i64 x)).setCell ⟨nb,0,none⟩ (.int .i64 ((x + y) % p.len))).heap[xb]? = some (oneI x):=zan e1 (Ne.symm ne3);have g4:((w.setCell ⟨xb,0,none⟩ (.int .i64 x)).setCell ⟨nb,0,none⟩ (.int .i64 ((x + y) % p.len))).cell? ⟨xb,0,none⟩ = some (.int .i64 x):=cell1 e2;go_wp2_with fail
 go_ret;refine ⟨rfl,⟨?_,?_,?_,⟨x,?_⟩,ne1,ne2,ne3,ne4,ne5⟩,?_⟩
 ·exact zad (i:=0) (v:=.int .i64 ((x + y) % p.len)) (zan H1.out ne3)
 ·exact zan (zan H2.out (Ne.symm ne4)) (Ne.symm ne1)
 ·exact zan (zan H3.out (Ne.symm ne5)) (Ne.symm ne2)
 ·exact e2
 ·exact (((KeptBut.refl _ w).set (p:=⟨xb,0,none⟩) (.inr rfl) _).set (p:=⟨nb,0,none⟩) (.inl rfl) _).drew
theorem zi2 (ka kb:Int) (L:List (List UInt8)):0≤zde ka kb L∧zde ka kb L < 18446744073709551616:=by
 unfold zde sumP xr; exact zil _ _ _
def DrawnPost (p:ParL) (k:Int × Int) (g:List UInt8) (w:World) (e:Ending) (w':World):Prop :=
 ∃ nb yb pb xb:Nat,e = .returned (.func (.func 242) #[] #[.pointer (some ⟨nb,0,none⟩),.pointer (some ⟨yb,0,none⟩),.pointer (some ⟨pb,0,none⟩),.pointer (some ⟨xb,0,none⟩)]) ∧
  ClosAt w' nb yb pb xb p (zgm p k g) (zh4 p k g)∧(w.heap.size≤nb∧w.heap.size≤xb∧w.heap.size≤yb∧w.heap.size≤pb)∧Below w.heap.size w w'
theorem drawn_any (p:ParL) (k:Int × Int) (g:List UInt8) (w:World) (hp:ParOk p) (hg:g.length≤60000) :
  Calls prog 219 #[.agg (parC p),.agg #[.int .u64 k.1,.int .u64 k.2],zal g] w (DrawnPost p k g w):=by
 have hl1:=hp.len1; have hl2:=hp.len2;have hl0:p.len≠0:=by omega
 have hl3:p.len - 1≠0:=by omega
 obtain ⟨h0,h1⟩:=zi2 k.1 k.2 [[49],g];obtain ⟨h2,h3⟩:=zi2 k.1 k.2 [[50],g];have hw1:IntKind.u64.wrap p.len = p.len:=by rw [IntKind.wrap_u64]; omega
 have hw2:IntKind.i64.wrap (p.len - 1) = p.len - 1:=by rw [IntKind.wrap_i64]; omega
 have hw3:IntKind.u64.wrap (p.len - 1) = p.len - 1:=by rw [IntKind.wrap_u64]; omega
 obtain ⟨X,hX⟩:∃ X,zgm p k g = X:=⟨_,rfl⟩;obtain ⟨Y,hY⟩:∃ Y,(zde k.1 k.2 [[50],g]) % (p.len - 1) = Y:=⟨_,rfl⟩;have hm1:(zde k.1 k.2 [[49],g]).tmod p.len = X:=by rw [← hX,Int.tmod_eq_emod_of_nonneg h0]; rfl
 have hm2:(zde k.1 k.2 [[50],g]).tmod (p.len - 1) = Y:=by rw [← hY,Int.tmod_eq_emod_of_nonneg h2]
 have x0:0≤X:=by rw [← hX]; exact Int.emod_nonneg _ hl0
 have x1:X < p.len:=by rw [← hX]; exact Int.emod_lt_of_pos _ (by omega)
 have y0:0≤Y:=by rw [← hY]; exact Int.emod_nonneg _ hl3
 have y1:Y < p.len - 1:=by rw [← hY]; exact Int.emod_lt_of_pos _ (by omega)
 have hc1:IntKind.i64.wrap X = X:=by rw [IntKind.wrap_i64]; omega
 have hc2:IntKind.i64.wrap Y = Y:=by rw [IntKind.wrap_i64]; omega
 have hc3:IntKind.i64.wrap (1 + Y) = 1 + Y:=by rw [IntKind.wrap_i64]; omega
 have HX:=zjp hX; have HY:=zjp (show zh4 p k g = 1 + Y by rw [← hY]; rfl);clear hX hY h0 h1 h2 h3 x0 x1;go_enter func219,ntmps219
 go_wp2_with fail
 refine zam (fun W hW=>?_)
 have hb0:=xam hW
 have hp0:W.heap[w.heap.size]? = some (.cells (parC p) 87 (0,0)):=by rw [hW]; exact zaf (zac rfl)
 have hk0:W.heap[w.heap.size + 1]? = some (.cells #[.int .u64 k.1,.int .u64 k.2] 41 (0,0)):=by rw [hW]; exact zac (by simp)
 clear hW;have HB0:=zjp hb0; have HP0:=zjp hp0; have HK0:=zjp hk0;have hpW:=zaa hp0; have hkW:=zaa hk0;obtain ⟨q0,q1,q2⟩:=zao hp0; obtain ⟨k0,k1⟩:=zae hk0;clear hb0 hp0 hk0;have bD:Below W.heap.size W W.drew:=(Below.refl _ _).drew;go_cut [7] (fun s7 wx=>∃ xb:Nat,s7 = .pointer (some ⟨xb,0,none⟩)∧W.heap.size≤xb∧wx.heap[xb]? = some (oneI X)∧Below W.heap.size W wx)
 case first =>
  refine wp_region_noPanic ?_
  refine zat (by kernel_rfl) (fun w'=>w'.cell? ⟨w.heap.size + 1,0,none⟩ = some (.int .u64 k.1)∧w'.cell? ⟨w.heap.size + 1,1,none⟩ = some (.int .u64 k.2)∧w'.cell? ⟨w.heap.size,0,none⟩ = some (.int .i64 p.len)) 10 (⟨k0,k1,q0⟩) (fun hHeld=>?_)
  refine tK 0 (h:=?_);refine tK 1 (h:=?_);refine tK 4 (h:=?_);refine tK 5 (h:=?_);refine tK 6 (h:=?_);refine zbf (rs:=[2,9]) (by kernel_rfl) (by simp) ?_
  refine AllReadyK.cons rfl (fun K hK=>?_) (AllReadyK.cons rfl (fun K hK=>?_) AllReadyK.nil)
  focus
   go_simp
   refine zbe hK (⟨((bD.alloc bD.size _).cell (p:=⟨w.heap.size + 1,0,none⟩) hkW).trans k0,((bD.alloc bD.size _).cell (p:=⟨w.heap.size + 1,1,none⟩) hkW).trans k1,((bD.alloc bD.size _).cell (p:=⟨w.heap.size,0,none⟩) hpW).trans q0⟩) (fun hHeld=>?_)
   clear hK K
   refine zbi (fun W1 hW1=>?_)
   have b1:Below W.heap.size W W1:=by rw [hW1]; exact bD.alloc bD.size (.cells #[zal [49],zal g] 9)
   have gs:W1.heap[W.heap.size]? = some (.cells #[zal [49],zal g] 9 (0,0)):=by rw [hW1]; exact zac rfl
   have ltgs:W.heap.size≤W.heap.size:=bD.size;clear hW1 hHeld;have hHeld:W1.cell? ⟨w.heap.size + 1,0,none⟩ = some (.int .u64 k.1)∧W1.cell? ⟨w.heap.size + 1,1,none⟩ = some (.int .u64 k.2)∧W1.cell? ⟨w.heap.size,0,none⟩ = some (.int .i64 p.len):=⟨(b1.cell (p:=⟨w.heap.size + 1,0,none⟩) hkW).trans k0,(b1.cell (p:=⟨w.heap.size + 1,1,none⟩) hkW).trans k1,(b1.cell (p:=⟨w.heap.size,0,none⟩) hpW).trans q0⟩;refine zbf (rs:=[3,9]) (by kernel_rfl) (by simp) ?_
   refine AllReadyK.cons rfl (fun K hK=>?_) (AllReadyK.cons rfl (fun K hK=>?_) AllReadyK.nil)
   focus
    go_simp;refine (zdb k.1 k.2 [49] g (by decide) hg _ _ gs).mono ?_;rintro e W2 ⟨rfl,hb⟩;have b2:=b1.trans (hb.mono b1.size);clear hb
    refine zbe hK (⟨(b2.cell (p:=⟨w.heap.size + 1,0,none⟩) hkW).trans k0,(b2.cell (p:=⟨w.heap.size + 1,1,none⟩) hkW).trans k1,(b2.cell (p:=⟨w.heap.size,0,none⟩) hpW).trans q0⟩) (fun hHeld=>?_)
    clear hK K;refine tK 7 (h:=?_);refine tK 8 (h:=?_)
    refine xrK 9 rfl fun K hK=>?_
    go_simp
    refine zbe hK (⟨((b2.alloc b2.size _).cell (p:=⟨w.heap.size + 1,0,none⟩) hkW).trans k0,((b2.alloc b2.size _).cell (p:=⟨w.heap.size + 1,1,none⟩) hkW).trans k1,((b2.alloc b2.size _).cell (p:=⟨w.heap.size,0,none⟩) hpW).trans q0⟩) (fun hHeld=>?_)
    clear hK K
    refine zbi (fun W3 hW3=>?_)
    have b3:Below W.heap.size W W3:=by rw [hW3]; exact b2.alloc b2.size (.cells #[.int .i64 0] 3)
    have ga:W3.heap[W2.heap.size]? = some (oneI 0):=by rw [hW3]; exact zac rfl
    have ltga:W.heap.size≤W2.heap.size:=b2.size;clear hW3 hHeld;have hHeld:W3.cell? ⟨w.heap.size + 1,0,none⟩ = some (.int .u64 k.1)∧W3.cell? ⟨w.heap.size + 1,1,none⟩ = some (.int .u64 k.2)∧W3.cell? ⟨w.heap.size,0,none⟩ = some (.int .i64 p.len):=⟨(b3.cell (p:=⟨w.heap.size + 1,0,none⟩) hkW).trans k0,(b3.cell (p:=⟨w.heap.size + 1,1,none⟩) hkW).trans k1,(b3.cell (p:=⟨w.heap.size,0,none⟩) hpW).trans q0⟩
   rotate_left 1
   focus
    go_simp
    refine zbe hK (⟨((b1.alloc b1.size _).cell (p:=⟨w.heap.size + 1,0,none⟩) hkW).trans k0,((b1.alloc b1.size _).cell (p:=⟨w.heap.size + 1,1,none⟩) hkW).trans k1,((b1.alloc b1.size _).cell (p:=⟨w.heap.size,0,none⟩) hpW).trans q0⟩) (fun hHeld=>?_)
    clear hK K
    refine zbi (fun W2 hW2=>?_)
    have b2:Below W.heap.size W W2:=by rw [hW2]; exact b1.alloc b1.size (.cells #[.int .i64 0] 3)
    have ga:W2.heap[W1.heap.size]? = some (oneI 0):=by rw [hW2]; exact zac rfl
    have ltga:W.heap.size≤W1.heap.size:=b1.size;have gs:=(show W2.heap[_]? = some _ by rw [hW2]; exact zaf gs);clear hW2 hHeld;have hHeld:W2.cell? ⟨w.heap.size + 1,0,none⟩ = some (.int .u64 k.1)∧W2.cell? ⟨w.heap.size + 1,1,none⟩ = some (.int .u64 k.2)∧W2.cell? ⟨w.heap.size,0,none⟩ = some (.int .i64 p.len):=⟨(b2.cell (p:=⟨w.heap.size + 1,0,none⟩) hkW).trans k0,(b2.cell (p:=⟨w.heap.size + 1,1,none⟩) hkW).trans k1,(b2.cell (p:=⟨w.heap.size,0,none⟩) hpW).trans q0⟩
    refine xrK 3 rfl fun K hK=>?_
    go_simp;refine (zdb k.1 k.2 [49] g (by decide) hg _ _ gs).mono ?_;rintro e W3 ⟨rfl,hb⟩;have b3:=b2.trans (hb.mono b2.size);have ga:=zab hb (zaa ga) ga;clear hb
    refine zbe hK (⟨(b3.cell (p:=⟨w.heap.size + 1,0,none⟩) hkW).trans k0,(b3.cell (p:=⟨w.heap.size + 1,1,none⟩) hkW).trans k1,(b3.cell (p:=⟨w.heap.size,0,none⟩) hpW).trans q0⟩) (fun hHeld=>?_)
    clear hK K;refine tK 7 (h:=?_);refine tK 8 (h:=?_)
  rotate_left 2
  focus
   go_simp
   refine zbe hK (⟨((bD.alloc bD.size _).cell (p:=⟨w.heap.size + 1,0,none⟩) hkW).trans k0,((bD.alloc bD.size _).cell (p:=⟨w.heap.size + 1,1,none⟩) hkW).trans k1,((bD.alloc bD.size _).cell (p:=⟨w.heap.size,0,none⟩) hpW).trans q0⟩) (fun hHeld=>?_)
   clear hK K
   refine zbi (fun W1 hW1=>?_)
   have b1:Below W.heap.size W W1:=by rw [hW1]; exact bD.alloc bD.size (.cells #[.int .i64 0] 3)
   have ga:W1.heap[W.heap.size]? = some (oneI 0):=by rw [hW1]; exact zac rfl
   have ltga:W.heap.size≤W.heap.size:=bD.size;clear hW1 hHeld;have hHeld:W1.cell? ⟨w.heap.size + 1,0,none⟩ = some (.int .u64 k.1)∧W1.cell? ⟨w.heap.size + 1,1,none⟩ = some (.int .u64 k.2)∧W1.cell? ⟨w.heap.size,0,none⟩ = some (.int .i64 p.len):=⟨(b1.cell (p:=⟨w.heap.size + 1,0,none⟩) hkW).trans k0,(b1.cell (p:=⟨w.heap.size + 1,1,none⟩) hkW).trans k1,(b1.cell (p:=⟨w.heap.size,0,none⟩) hpW).trans q0⟩
   refine xrK 2 rfl fun K hK=>?_
   go_simp
   refine zbe hK (⟨((b1.alloc b1.size _).cell (p:=⟨w.heap.size + 1,0,none⟩) hkW).trans k0,((b1.alloc b1.size _).cell (p:=⟨w.heap.size + 1,1,none⟩) hkW).trans k1,((b1.alloc b1.size _).cell (p:=⟨w.heap.size,0,none⟩) hpW).trans q0⟩) (fun hHeld=>?_)
   clear hK K
   refine zbi (fun W2 hW2=>?_)
   have b2:Below W.heap.size W W2:=by rw [hW2]; exact b1.alloc b1.size (.cells #[zal [49],zal g] 9)
   have gs:W2.heap[W1.heap.size]? = some (.cells #[zal [49],zal g] 9 (0,0)):=by rw [hW2]; exact zac rfl
   have ltgs:W.heap.size≤W1.heap.size:=b1.size;have ga:=(show W2.heap[_]? = some _ by rw [hW2]; exact zaf ga);clear hW2 hHeld;have hHeld:W2.cell? ⟨w.heap.size + 1,0,none⟩ = some (.int .u64 k.1)∧W2.cell? ⟨w.heap.size + 1,1,none⟩ = some (.int .u64 k.2)∧W2.cell? ⟨w.heap.size,0,none⟩ = some (.int .i64 p.len):=⟨(b2.cell (p:=⟨w.heap.size + 1,0,none⟩) hkW).trans k0,(b2.cell (p:=⟨w.heap.size + 1,1,none⟩) hkW).trans k1,(b2.cell (p:=⟨w.heap.size,0,none⟩) hpW).trans q0⟩
   refine xrK 3 rfl fun K hK=>?_
   go_simp;refine (zdb k.1 k.2 [49] g (by decide) hg _ _ gs).mono ?_;rintro e W3 ⟨rfl,hb⟩;have b3:=b2.trans (hb.mono b2.size);have ga:=zab hb (zaa ga) ga;clear hb
   refine zbe hK (⟨(b3.cell (p:=⟨w.heap.size + 1,0,none⟩) hkW).trans k0,(b3.cell (p:=⟨w.heap.size + 1,1,none⟩) hkW).trans k1,(b3.cell (p:=⟨w.heap.size,0,none⟩) hpW).trans q0⟩) (fun hHeld=>?_)
   clear hK K;refine tK 7 (h:=?_);refine tK 8 (h:=?_)
  all_goals
   have ca:=cell1 ga; have fa:=frozen_of_row _ _ 0 _ _ ga; have za:=zaa ga
   refine xrK 10 rfl fun K hK=>?_
   go_simp;refine zas hK (by decide) ?_;clear hK K;refine zar (by kernel_rfl) ?_ _;refine NoPanic.normal ?_;go_wp2_with fail
   go_meet;exact ⟨_,rfl,ltga,zad (i:=0) (v:=.int .i64 X) ga,b3.setCell (p:=⟨_,0,none⟩) ltga _⟩
 case rest =>
  obtain ⟨xb,rfl,hxb,hx,hbx⟩:=hcut;have HC:=zjp hx;have HBX:=zjp hbx;have k0:=(hbx.cell (p:=⟨w.heap.size + 1,0,none⟩) hkW).trans k0; have k1:=(hbx.cell (p:=⟨w.heap.size + 1,1,none⟩) hkW).trans k1; have q0:=(hbx.cell (p:=⟨w.heap.size,0,none⟩) hpW).trans q0;have hP1:=zab hbx hpW HP0.out; have hK1:=zab hbx hkW HK0.out;have hpW0:=hpW; have hpW:=zaa hP1; have hkW:=zaa hK1;have HP1:=zjp hP1; have HK1:=zjp hK1;have hzW:=hbx.size; have hxlt:=zaa hx;clear hbx hx hP1 hK1 bD;obtain ⟨W0,hW0⟩:∃ W0,W0 = W:=⟨_,rfl⟩;rw [← hW0] at HB0 HP0 HK0 HBX hxb hzW hpW0; clear hW0;obtain ⟨W,rfl⟩:∃ W,W = wc:=⟨_,rfl⟩;have bD:Below W.heap.size W W.drew:=(Below.refl _ _).drew;go_wp2_with fail
  go_cut [8] (fun s8 wx=>∃ yb:Nat,s8 = .pointer (some ⟨yb,0,none⟩)∧W.heap.size≤yb∧wx.heap[yb]? = some (oneI (1 + Y))∧Below W.heap.size W wx)
  case first =>
   refine wp_region_noPanic ?_
   refine zat (by kernel_rfl) (fun w'=>w'.cell? ⟨w.heap.size + 1,0,none⟩ = some (.int .u64 k.1)∧w'.cell? ⟨w.heap.size + 1,1,none⟩ = some (.int .u64 k.2)∧w'.cell? ⟨w.heap.size,0,none⟩ = some (.int .i64 p.len)) 12 (⟨k0,k1,q0⟩) (fun hHeld=>?_)
   refine tK 0 (h:=?_);refine tK 1 (h:=?_);refine tK 4 (h:=?_);refine tK 5 (h:=?_);refine tK 6 (h:=?_);refine tK 7 (h:=?_);refine zbf (rs:=[2,11]) (by kernel_rfl) (by simp) ?_
   refine AllReadyK.cons rfl (fun K hK=>?_) (AllReadyK.cons rfl (fun K hK=>?_) AllReadyK.nil)
   focus
    go_simp
    refine zbe hK (⟨((bD.alloc bD.size _).cell (p:=⟨w.heap.size + 1,0,none⟩) hkW).trans k0,((bD.alloc bD.size _).cell (p:=⟨w.heap.size + 1,1,none⟩) hkW).trans k1,((bD.alloc bD.size _).cell (p:=⟨w.heap.size,0,none⟩) hpW).trans q0⟩) (fun hHeld=>?_)
    clear hK K
    refine zbi (fun W1 hW1=>?_)
    have b1:Below W.heap.size W W1:=by rw [hW1]; exact bD.alloc bD.size (.cells #[zal [50],zal g] 9)
    have gs:W1.heap[W.heap.size]? = some (.cells #[zal [50],zal g] 9 (0,0)):=by rw [hW1]; exact zac rfl
    have ltgs:W.heap.size≤W.heap.size:=bD.size;clear hW1 hHeld;have hHeld:W1.cell? ⟨w.heap.size + 1,0,none⟩ = some (.int .u64 k.1)∧W1.cell? ⟨w.heap.size + 1,1,none⟩ = some (.int .u64 k.2)∧W1.cell? ⟨w.heap.size,0,none⟩ = some (.int .i64 p.len):=⟨(b1.cell (p:=⟨w.heap.size + 1,0,none⟩) hkW).trans k0,(b1.cell (p:=⟨w.heap.size + 1,1,none⟩) hkW).trans k1,(b1.cell (p:=⟨w.heap.size,0,none⟩) hpW).trans q0⟩;refine zbf (rs:=[3,11]) (by kernel_rfl) (by simp) ?_
    refine AllReadyK.cons rfl (fun K hK=>?_) (AllReadyK.cons rfl (fun K hK=>?_) AllReadyK.nil)
    focus
     go_simp;refine (zdb k.1 k.2 [50] g (by decide) hg _ _ gs).mono ?_;rintro e W2 ⟨rfl,hb⟩;have b2:=b1.trans (hb.mono b1.size);clear hb
     refine zbe hK (⟨(b2.cell (p:=⟨w.heap.size + 1,0,none⟩) hkW).trans k0,(b2.cell (p:=⟨w.heap.size + 1,1,none⟩) hkW).trans k1,(b2.cell (p:=⟨w.heap.size,0,none⟩) hpW).trans q0⟩) (fun hHeld=>?_)
     clear hK K;refine tK 8 (h:=?_);refine tK 9 (h:=?_);refine tK 10 (h:=?_)
     refine xrK 11 rfl fun K hK=>?_
     go_simp
     refine zbe hK (⟨((b2.alloc b2.size _).cell (p:=⟨w.heap.size + 1,0,none⟩) hkW).trans k0,((b2.alloc b2.size _).cell (p:=⟨w.heap.size + 1,1,none⟩) hkW).trans k1,((b2.alloc b2.size _).cell (p:=⟨w.heap.size,0,none⟩) hpW).trans q0⟩) (fun hHeld=>?_)
     clear hK K
     refine zbi (fun W3 hW3=>?_)
     have b3:Below W.heap.size W W3:=by rw [hW3]; exact b2.alloc b2.size (.cells #[.int .i64 0] 3)
     have ga:W3.heap[W2.heap.size]? = some (oneI 0):=by rw [hW3]; exact zac rfl
     have ltga:W.heap.size≤W2.heap.size:=b2.size;clear hW3 hHeld;have hHeld:W3.cell? ⟨w.heap.size + 1,0,none⟩ = some (.int .u64 k.1)∧W3.cell? ⟨w.heap.size + 1,1,none⟩ = some (.int .u64 k.2)∧W3.cell? ⟨w.heap.size,0,none⟩ = some (.int .i64 p.len):=⟨(b3.cell (p:=⟨w.heap.size + 1,0,none⟩) hkW).trans k0,(b3.cell (p:=⟨w.heap.size + 1,1,none⟩) hkW).trans k1,(b3.cell (p:=⟨w.heap.size,0,none⟩) hpW).trans q0⟩
    rotate_left 1
    focus
     go_simp
     refine zbe hK (⟨((b1.alloc b1.size _).cell (p:=⟨w.heap.size + 1,0,none⟩) hkW).trans k0,((b1.alloc b1.size _).cell (p:=⟨w.heap.size + 1,1,none⟩) hkW).trans k1,((b1.alloc b1.size _).cell (p:=⟨w.heap.size,0,none⟩) hpW).trans q0⟩) (fun hHeld=>?_)
     clear hK K
     refine zbi (fun W2 hW2=>?_)
     have b2:Below W.heap.size W W2:=by rw [hW2]; exact b1.alloc b1.size (.cells #[.int .i64 0] 3)
     have ga:W2.heap[W1.heap.size]? = some (oneI 0):=by rw [hW2]; exact zac rfl
     have ltga:W.heap.size≤W1.heap.size:=b1.size;have gs:=(show W2.heap[_]? = some _ by rw [hW2]; exact zaf gs);clear hW2 hHeld;have hHeld:W2.cell? ⟨w.heap.size + 1,0,none⟩ = some (.int .u64 k.1)∧W2.cell? ⟨w.heap.size + 1,1,none⟩ = some (.int .u64 k.2)∧W2.cell? ⟨w.heap.size,0,none⟩ = some (.int .i64 p.len):=⟨(b2.cell (p:=⟨w.heap.size + 1,0,none⟩) hkW).trans k0,(b2.cell (p:=⟨w.heap.size + 1,1,none⟩) hkW).trans k1,(b2.cell (p:=⟨w.heap.size,0,none⟩) hpW).trans q0⟩
     refine xrK 3 rfl fun K hK=>?_
     go_simp;refine (zdb k.1 k.2 [50] g (by decide) hg _ _ gs).mono ?_;rintro e W3 ⟨rfl,hb⟩;have b3:=b2.trans (hb.mono b2.size);have ga:=zab hb (zaa ga) ga;clear hb
     refine zbe hK (⟨(b3.cell (p:=⟨w.heap.size + 1,0,none⟩) hkW).trans k0,(b3.cell (p:=⟨w.heap.size + 1,1,none⟩) hkW).trans k1,(b3.cell (p:=⟨w.heap.size,0,none⟩) hpW).trans q0⟩) (fun hHeld=>?_)
     clear hK K;refine tK 8 (h:=?_);refine tK 9 (h:=?_);refine tK 10 (h:=?_)
   rotate_left 2
   focus
    go_simp
    refine zbe hK (⟨((bD.alloc bD.size _).cell (p:=⟨w.heap.size + 1,0,none⟩) hkW).trans k0,((bD.alloc bD.size _).cell (p:=⟨w.heap.size + 1,1,none⟩) hkW).trans k1,((bD.alloc bD.size _).cell (p:=⟨w.heap.size,0,none⟩) hpW).trans q0⟩) (fun hHeld=>?_)
    clear hK K
    refine zbi (fun W1 hW1=>?_)
    have b1:Below W.heap.size W W1:=by rw [hW1]; exact bD.alloc bD.size (.cells #[.int .i64 0] 3)
    have ga:W1.heap[W.heap.size]? = some (oneI 0):=by rw [hW1]; exact zac rfl
    have ltga:W.heap.size≤W.heap.size:=bD.size;clear hW1 hHeld;have hHeld:W1.cell? ⟨w.heap.size + 1,0,none⟩ = some (.int .u64 k.1)∧W1.cell? ⟨w.heap.size + 1,1,none⟩ = some (.int .u64 k.2)∧W1.cell? ⟨w.heap.size,0,none⟩ = some (.int .i64 p.len):=⟨(b1.cell (p:=⟨w.heap.size + 1,0,none⟩) hkW).trans k0,(b1.cell (p:=⟨w.heap.size + 1,1,none⟩) hkW).trans k1,(b1.cell (p:=⟨w.heap.size,0,none⟩) hpW).trans q0⟩
    refine xrK 2 rfl fun K hK=>?_
    go_simp
    refine zbe hK (⟨((b1.alloc b1.size _).cell (p:=⟨w.heap.size + 1,0,none⟩) hkW).trans k0,((b1.alloc b1.size _).cell (p:=⟨w.heap.size + 1,1,none⟩) hkW).trans k1,((b1.alloc b1.size _).cell (p:=⟨w.heap.size,0,none⟩) hpW).trans q0⟩) (fun hHeld=>?_)
    clear hK K
    refine zbi (fun W2 hW2=>?_)
    have b2:Below W.heap.size W W2:=by rw [hW2]; exact b1.alloc b1.size (.cells #[zal [50],zal g] 9)
    have gs:W2.heap[W1.heap.size]? = some (.cells #[zal [50],zal g] 9 (0,0)):=by rw [hW2]; exact zac rfl
    have ltgs:W.heap.size≤W1.heap.size:=b1.size;have ga:=(show W2.heap[_]? = some _ by rw [hW2]; exact zaf ga);clear hW2 hHeld;have hHeld:W2.cell? ⟨w.heap.size + 1,0,none⟩ = some (.int .u64 k.1)∧W2.cell? ⟨w.heap.size + 1,1,none⟩ = some (.int .u64 k.2)∧W2.cell? ⟨w.heap.size,0,none⟩ = some (.int .i64 p.len):=⟨(b2.cell (p:=⟨w.heap.size + 1,0,none⟩) hkW).trans k0,(b2.cell (p:=⟨w.heap.size + 1,1,none⟩) hkW).trans k1,(b2.cell (p:=⟨w.heap.size,0,none⟩) hpW).trans q0⟩
    refine xrK 3 rfl fun K hK=>?_
    go_simp;refine (zdb k.1 k.2 [50] g (by decide) hg _ _ gs).mono ?_;rintro e W3 ⟨rfl,hb⟩;have b3:=b2.trans (hb.mono b2.size);have ga:=zab hb (zaa ga) ga;clear hb
    refine zbe hK (⟨(b3.cell (p:=⟨w.heap.size + 1,0,none⟩) hkW).trans k0,(b3.cell (p:=⟨w.heap.size + 1,1,none⟩) hkW).trans k1,(b3.cell (p:=⟨w.heap.size,0,none⟩) hpW).trans q0⟩) (fun hHeld=>?_)
    clear hK K;refine tK 8 (h:=?_);refine tK 9 (h:=?_);refine tK 10 (h:=?_)
   all_goals
    have ca:=cell1 ga; have fa:=frozen_of_row _ _ 0 _ _ ga; have za:=zaa ga
    refine xrK 12 rfl fun K hK=>?_
    go_simp;refine zas hK (by decide) ?_;clear hK K;refine zar (by kernel_rfl) ?_ _;refine NoPanic.normal ?_;go_wp2_with fail
    go_meet;exact ⟨_,rfl,ltga,zad (i:=0) (v:=.int .i64 (1 + Y)) ga,b3.setCell (p:=⟨_,0,none⟩) ltga _⟩
  case rest =>
   obtain ⟨yb,rfl,hyb,hy,hby⟩:=hcut;have hx2:=zab hby hxlt HC.out;have cx:=cell1 hx2;have hp2:=zab hby hpW HP1.out;have zc:=zaa hy; have hz3:=HBX.out.size; have hz4:=HB0.out.size; have hz5:=hby.size;have HY2:=zjp hy; have HX2:=zjp hx2; have HP2:=zjp hp2; have HBY:=zjp hby
   clear hy hx2 hp2 hby
   go_wp2_with fail
   go_ret;refine ⟨wc.heap.size,yb,w.heap.size,xb,rfl,⟨?_,?_,zaf HP2.out,⟨X,zaf HX2.out⟩,by omega,by omega,by omega,by omega,by omega⟩,⟨by omega,by omega,by omega,by omega⟩,?_⟩
   ·rw [HX.out]; exact zac rfl
   ·rw [HY.out]; exact zaf HY2.out
   ·exact (HB0.out.trans ((HBX.out.mono HB0.out.size).trans (HBY.out.mono (by omega)))).alloc (by omega) _
end
section
open Go.RowKit
def itN (len y:Int):Nat→Int→Int
 | 0,x=>x
 | n + 1,x=>itN len y n ((x + y) % len)
theorem itN_succ (len y:Int):∀ n x,itN len y (n + 1) x = (itN len y n x + y) % len:=by
 intro n;induction n with
 | zero=>intro x; rfl
 | succ n ih=>intro x; rw [itN,ih]; rfl
theorem posN_snoc (len y:Int):∀ n x,posN len y (n + 1) x = posN len y n x ++ [itN len y n x]:=by
 intro n;induction n with
 | zero=>intro x; rfl
 | succ n ih=>intro x; rw [posN,ih]; rfl
theorem zei (len y:Int):∀ n x,(posN len y n x).length = n:=by
 intro n;induction n with
 | zero=>intro x; rfl
 | succ n ih=>intro x; simp [posN,ih]
theorem itN_bd (len y:Int) (hl:0 < len) (x:Int) (h0:0≤x) (h1:x < len):∀ n,0≤itN len y n x∧itN len y n x < len:=by
 intro n;cases n with
 | zero=>exact ⟨h0,h1⟩
 | succ n=>rw [itN_succ]; exact ⟨Int.emod_nonneg _ (by omega),Int.emod_lt_of_pos _ hl⟩
theorem posN_bd (len y:Int) (hl:0 < len):∀ n x,0≤x→x < len→∀ i∈posN len y n x,0≤i∧i < len:=by
 intro n;induction n with
 | zero=>intro x _ _ i hi; simp [posN] at hi
 | succ n ih =>
  intro x h0 h1 i hi;simp only [posN,List.mem_cons] at hi
  rcases hi with rfl | hi
  ·exact ⟨h0,h1⟩
  ·exact ih _ (Int.emod_nonneg _ (by omega)) (Int.emod_lt_of_pos _ hl) i hi
abbrev encI (x:Int):List Value:=[.int .i64 x]
theorem made_ints (m:Nat):madeCells #[.int .i64 0] m = ((List.replicate m (0:Int)).flatMap encI).toArray:=by
 apply Array.ext'
 have:∀ k,(List.replicate k (0:Int)).flatMap encI = List.replicate k (.int .i64 0):=by
  intro k; induction k with
  | zero=>rfl
  | succ k ih=>rw [List.replicate_succ,List.flatMap_cons,ih]; rfl
 rw [this];unfold madeCells;rw [Array.toList_map,Array.toList_range]
 refine List.ext_getElem (by simp) fun i h1 h2=>?_
 simp [Nat.mod_one]
theorem infoI:(prog.info? 3).map (fun i=>(i.zero,i.size,i.bytes)) = some (some (.int .i64 0),1,8):=by kernel_rfl
theorem prow_step (len y:Int) (H j:Nat) (x:Int) (hj:j < H):(((posN len y j x ++ List.replicate (H - j) 0).flatMap encI).toArray).setIfInBounds j (.int .i64 (itN len y j x)) = ((posN len y (j + 1) x ++ List.replicate (H - (j + 1)) 0).flatMap encI).toArray:=by
 have fl:∀ l:List Int,l.flatMap encI = l.map (Value.int .i64):=by
  intro l; induction l with
  | nil=>rfl
  | cons a l ih=>simp only [List.flatMap_cons,List.map_cons,ih]; rfl
 rw [fl,fl,List.setIfInBounds_toArray,show H - j = (H - (j + 1)) + 1 by omega,List.replicate_succ,posN_snoc];congr 1;rw [List.map_append,List.set_append_right _ _ (by rw [List.length_map,zei]; exact Nat.le_refl _),List.length_map,zei,Nat.sub_self];simp
theorem row_cell (len y:Int) (H j:Nat) (x:Int) (hj:j < H):(((posN len y j x ++ List.replicate (H - j) 0).flatMap encI).toArray)[j]? = some (.int .i64 0):=by
 have fl:∀ l:List Int,l.flatMap encI = l.map (Value.int .i64):=by
  intro l; induction l with
  | nil=>rfl
  | cons a l ih=>simp only [List.flatMap_cons,List.map_cons,ih]; rfl
 rw [fl,List.getElem?_toArray,List.getElem?_map,List.getElem?_append_right (by rw [zei]; exact Nat.le_refl _),zei,Nat.sub_self,show H - j = (H - (j + 1)) + 1 by omega,List.replicate_succ];rfl
theorem fun_cell {w:World} {gb:Nat} {t:TypeId} {fr:Nat × Nat} {L:List Int} (hr:w.heap[gb]? = some (.cells (L.flatMap encI).toArray t fr)) {i:Nat} {x:Int} (hi:L[i]? = some x) {u:Nat} {v:Value} (hu:(encI x)[u]? = some v):w.cell? ⟨gb,0 + i * 1 + u,none⟩ = some v:=by
 rw [cell_of_row _ _ _ _ _ _ hr,Nat.zero_add,List.getElem?_toArray];have hul:u < 1:=(List.getElem?_eq_some_iff.1 hu).1;rw [zf8 (enc:=encI) (fun _=>rfl) L i x hi u hul]; exact hu
theorem zbr {P:Program} {md:Region.Mode} {ops:Array Oper} {Q:Exit→Act→World→Prop} {S:World→Prop} {fuel:Nat} {listed:Array Bool} {a:Act} {W:World} (h:∀ w',w' = W→wpAnyH P md ops Q S fuel listed a w'):wpAnyH P md ops Q S fuel listed a W:=h W rfl
def PosPost (p:ParL) (k:Int × Int) (g:List UInt8) (w:World) (e:Ending) (w':World):Prop :=
 ∃ v,e = .returned (.tuple #[v,.int .i64 0])∧Vec w' (fun b=>w.heap.size≤b) 1 encI v (zbt p k g)∧Below w.heap.size w w'
theorem ClosAt.later {w:World} {nb yb pb xb:Nat} {p:ParL} {x y:Int} (h:ClosAt w nb yb pb xb p x y) {o:Obj}:ClosAt (w.alloc o) nb yb pb xb p x y :=
 ⟨zaf h.n,zaf h.y,zaf h.p,h.x.imp fun _ hz=>zaf hz,h.ne1,h.ne2,h.ne3,h.ne4,h.ne5⟩
theorem ClosAt.set {w:World} {nb yb pb xb gb i:Nat} {p:ParL} {x y:Int} {v:Value} (h:ClosAt w nb yb pb xb p x y) (h1:gb≠nb) (h2:gb≠yb) (h3:gb≠pb) (h4:gb≠xb):ClosAt (w.setCell ⟨gb,i,none⟩ v) nb yb pb xb p x y :=
 ⟨zan h.n (Ne.symm h1),zan h.y (Ne.symm h2),zan h.p (Ne.symm h3),h.x.imp fun _ hz=>zan hz (Ne.symm h4),h.ne1,h.ne2,h.ne3,h.ne4,h.ne5⟩
theorem positions_yes (p:ParL) (k:Int × Int) (g:List UInt8) (w:World) (hp:ParOk p) (hg:g.length≤60000) :
  Calls prog 181 #[.agg (parC p),.agg #[.int .u64 k.1,.int .u64 k.2],zal g] w (PosPost p k g w):=by
 have hl1:=hp.len1; have hl2:=hp.len2; have hh1:=hp.h1; have hh2:=hp.h2;obtain ⟨H,hH⟩:∃ H:Nat,p.hashes = H:=⟨p.hashes.toNat,by omega⟩;have hmk:=run_make_row' (P:=prog) 22 3 (.int .i64 0) 8 underlying22 infoI rfl .i64 .i64 H (by omega) (by omega);rw [made_ints,← hH] at hmk;have F0:0≤zgm p k g:=Int.emod_nonneg _ (by omega);have F1:zgm p k g < p.len:=Int.emod_lt_of_pos _ (by omega);have Y0:1≤zh4 p k g:=by have:0≤(zde k.1 k.2 [[50],g]) % (p.len - 1):=Int.emod_nonneg _ (by omega); unfold zh4; omega
 have Y1:zh4 p k g≤1000:=by have:(zde k.1 k.2 [[50],g]) % (p.len - 1) < p.len - 1:=Int.emod_lt_of_pos _ (by omega); unfold zh4; omega
 have hHb:H≤16:=by omega
 have HP:=zjp hp; have HH:=zjp hH;clear hp hH;go_enter func181,ntmps181
 go_wp2_with fail
 refine zai (fun W hW=>?_)
 have hb0:=xam hW
 have hp0:W.heap[w.heap.size]? = some (.cells (parC p) 87 (0,0)):=by rw [hW]; exact zaf (zac rfl)
 have hk0:W.heap[w.heap.size + 1]? = some (.cells #[.int .u64 k.1,.int .u64 k.2] 41 (0,0)):=by rw [hW]; exact zac (by simp)
 clear hW;refine (bcheck_yes p W HP.out).mono ?_;rintro e w1 ⟨rfl,hb⟩;have hp1:=zab hb (zaa hp0) hp0; have hk1:=zab hb (zaa hk0) hk0;have hb1:=hb0.trans (hb.mono hb0.size);have HB1:=zjp hb1; have HP1:=zjp hp1; have HK1:=zjp hk1;have hpW:=zaa hp1; have hkW:=zaa hk1;obtain ⟨q0,q1,q2⟩:=zao hp1; obtain ⟨k0,k1⟩:=zae hk1;clear hb0 hp0 hk0 hb hp1 hk1 hb1;go_wp2_with fail
 have bD:Below w1.heap.size w1 w1.drew:=(Below.refl _ _).drew
 go_cut [9,10] (fun s9 s10 wx=>∃ gb nb yb pb xb:Nat,s9 = .slice (some ⟨gb,0,none⟩) H H∧s10 = .func (.func 242) #[] #[.pointer (some ⟨nb,0,none⟩),.pointer (some ⟨yb,0,none⟩),.pointer (some ⟨pb,0,none⟩),.pointer (some ⟨xb,0,none⟩)] ∧
  ClosAt wx nb yb pb xb p (zgm p k g) (zh4 p k g)∧wx.heap[gb]? = some (.cells ((List.replicate H (0:Int)).flatMap encI).toArray 3 (0,0))∧(gb≠nb∧gb≠yb∧gb≠pb∧gb≠xb)∧(w1.heap.size≤gb∧w1.heap.size≤nb∧w1.heap.size≤xb)∧Below w1.heap.size w1 wx)
 case first =>
  refine wp_region_noPanic ?_
  refine wp_region_held_drew (S:=(fun w'=>w'.cell? ⟨w.heap.size + 1,0,none⟩ = some (.int .u64 k.1)∧w'.cell? ⟨w.heap.size + 1,1,none⟩ = some (.int .u64 k.2)∧w'.cell? ⟨w.heap.size,0,none⟩ = some (.int .i64 p.len)∧w'.cell? ⟨w.heap.size,1,none⟩ = some (.int .i64 p.hashes)∧w'.cell? ⟨w.heap.size,2,none⟩ = some (.int .i64 p.salt))) (by kernel_rfl) (⟨k0,k1,q0,q1,q2⟩) (fun hHeld=>?_)
  refine tH 0 (h:=?_);refine tH 1 (h:=?_);refine tH 3 (h:=?_);refine tH 4 (h:=?_);refine tH 5 (h:=?_);refine wpAnyH_ready (rs:=[2,6]) (by kernel_rfl) (by simp) ?_
  refine AllReadyH.cons rfl (fun K hK=>?_) (AllReadyH.cons rfl (fun K hK=>?_) AllReadyH.nil)
  focus
   go_simp
   refine hK.out _ _ (⟨((bD.alloc bD.size _).cell (p:=⟨w.heap.size + 1,0,none⟩) hkW).trans k0,((bD.alloc bD.size _).cell (p:=⟨w.heap.size + 1,1,none⟩) hkW).trans k1,((bD.alloc bD.size _).cell (p:=⟨w.heap.size,0,none⟩) hpW).trans q0,((bD.alloc bD.size _).cell (p:=⟨w.heap.size,1,none⟩) hpW).trans q1,((bD.alloc bD.size _).cell (p:=⟨w.heap.size,2,none⟩) hpW).trans q2⟩) (fun hHeld=>?_)
   clear hK K
   refine zbr (fun W1 hW1=>?_)
   have b1:Below w1.heap.size w1 W1:=by rw [hW1]; exact bD.alloc bD.size (.cells ((List.replicate H (0:Int)).flatMap encI).toArray 3)
   have ga:W1.heap[w1.heap.size]? = some (.cells ((List.replicate H (0:Int)).flatMap encI).toArray 3 (0,0)):=by rw [hW1]; exact zac rfl
   have zz:W1.heap.size = w1.heap.size + 1:=by rw [hW1]; simp
   clear hW1 hHeld;have hHeld:W1.cell? ⟨w.heap.size + 1,0,none⟩ = some (.int .u64 k.1)∧W1.cell? ⟨w.heap.size + 1,1,none⟩ = some (.int .u64 k.2)∧W1.cell? ⟨w.heap.size,0,none⟩ = some (.int .i64 p.len)∧W1.cell? ⟨w.heap.size,1,none⟩ = some (.int .i64 p.hashes)∧W1.cell? ⟨w.heap.size,2,none⟩ = some (.int .i64 p.salt):=⟨(b1.cell (p:=⟨w.heap.size + 1,0,none⟩) hkW).trans k0,(b1.cell (p:=⟨w.heap.size + 1,1,none⟩) hkW).trans k1,(b1.cell (p:=⟨w.heap.size,0,none⟩) hpW).trans q0,(b1.cell (p:=⟨w.heap.size,1,none⟩) hpW).trans q1,(b1.cell (p:=⟨w.heap.size,2,none⟩) hpW).trans q2⟩;refine wpAnyH_ready (rs:=[6]) (by kernel_rfl) (by simp) ?_
   refine AllReadyH.cons rfl (fun K hK=>?_) AllReadyH.nil
   go_simp;refine (drawn_any p k g _ HP.out hg).mono ?_; rintro e w2 ⟨nb,yb,pb,xb,rfl,hc,⟨hn1,hx1,hy1,hp1⟩,hb2⟩; have b2:=b1.trans (hb2.mono b1.size); have ga2:=zab hb2 (zaa ga) ga
   refine hK.out _ _ (⟨(b2.cell (p:=⟨w.heap.size + 1,0,none⟩) hkW).trans k0,(b2.cell (p:=⟨w.heap.size + 1,1,none⟩) hkW).trans k1,(b2.cell (p:=⟨w.heap.size,0,none⟩) hpW).trans q0,(b2.cell (p:=⟨w.heap.size,1,none⟩) hpW).trans q1,(b2.cell (p:=⟨w.heap.size,2,none⟩) hpW).trans q2⟩) (fun hHeld=>?_)
   clear hK K;refine tH 7 (h:=?_);refine tH 8 (h:=?_);refine wpAnyH_done (by kernel_rfl) ?_ _;refine NoPanic.normal ?_;go_wp2_with fail
   go_meet;exact ⟨_,nb,yb,pb,xb,rfl,rfl,hc,ga2,⟨by omega,by omega,by omega,by omega⟩,⟨by omega,by omega,by omega⟩,b2⟩
  rotate_left 1
  focus
   go_simp;refine (drawn_any p k g _ HP.out hg).mono ?_;rintro e w2 ⟨nb,yb,pb,xb,rfl,hc,⟨hn1,hx1,hy1,hp1⟩,hb2⟩;have b2:=bD.trans hb2
   refine hK.out _ _ (⟨(b2.cell (p:=⟨w.heap.size + 1,0,none⟩) hkW).trans k0,(b2.cell (p:=⟨w.heap.size + 1,1,none⟩) hkW).trans k1,(b2.cell (p:=⟨w.heap.size,0,none⟩) hpW).trans q0,(b2.cell (p:=⟨w.heap.size,1,none⟩) hpW).trans q1,(b2.cell (p:=⟨w.heap.size,2,none⟩) hpW).trans q2⟩) (fun hHeld=>?_)
   clear hK K;refine wpAnyH_ready (rs:=[2]) (by kernel_rfl) (by simp) ?_
   refine AllReadyH.cons rfl (fun K hK=>?_) AllReadyH.nil
   go_simp
   refine hK.out _ _ (⟨((b2.alloc b2.size _).cell (p:=⟨w.heap.size + 1,0,none⟩) hkW).trans k0,((b2.alloc b2.size _).cell (p:=⟨w.heap.size + 1,1,none⟩) hkW).trans k1,((b2.alloc b2.size _).cell (p:=⟨w.heap.size,0,none⟩) hpW).trans q0,((b2.alloc b2.size _).cell (p:=⟨w.heap.size,1,none⟩) hpW).trans q1,((b2.alloc b2.size _).cell (p:=⟨w.heap.size,2,none⟩) hpW).trans q2⟩) (fun hHeld=>?_)
   clear hK K;refine tH 7 (h:=?_);refine tH 8 (h:=?_);refine wpAnyH_done (by kernel_rfl) ?_ _;refine NoPanic.normal ?_;have l1:=zaa hc.n; have l2:=zaa hc.y; have l3:=zaa hc.p; obtain ⟨zx,hzx⟩:=hc.x; have l4:=zaa hzx;have hc2:=hc.later (o:=(.cells ((List.replicate H (0:Int)).flatMap encI).toArray 3));go_wp2_with fail
   go_meet;exact ⟨_,nb,yb,pb,xb,rfl,rfl,hc2,zac rfl,⟨by omega,by omega,by omega,by omega⟩,⟨hb2.size,hn1,hx1⟩,b2.alloc b2.size _⟩
 case rest =>
  obtain ⟨gb,nb,yb,pb,xb,rfl,rfl,hc,hga,⟨n1,n2,n3,n4⟩,⟨m1,m2,m3⟩,hbc⟩:=hcut;have HC:=zjp hc; have HG:=zjp hga; have HBC:=zjp hbc;have hbz:=HB1.out.size;clear hc hga hbc bD hmk q0 q1 q2 k0 k1;go_wp2_with fail
  go_loopw [11,26] (fun _ i wr=>∃ j:Nat,i = .int .i64 j∧j≤H∧ClosAt wr nb yb pb xb p (itN p.len (zh4 p k g) j (zgm p k g)) (zh4 p k g)∧wr.heap[gb]? = some (.cells ((posN p.len (zh4 p k g) j (zgm p k g) ++ List.replicate (H - j) 0).flatMap encI).toArray 3 (0,0))∧KeptBut (fun b=>w1.heap.size≤b) w1 wr) (fun _ i _=>H - (intOf i).toNat)
  case atStart=>exact ⟨0,rfl,by omega,HC.out,HG.out,.ofBelow HBC.out⟩
  case round =>
   obtain ⟨j,rfl,hj,hc,hga,hkb⟩:=hrel;have HC2:=zjp hc; have HG2:=zjp hga; have HK2:=zjp hkb;clear hc hga hkb HC HG;by_cases hlt:j < H
   ·have hq:decide ((j:Int) < H) = true:=by simp; omega
    have hb3:=itN_bd p.len (zh4 p k g) (by omega) (zgm p k g) F0 F1 j;obtain ⟨xj,hxj⟩:∃ xj,itN p.len (zh4 p k g) j (zgm p k g) = xj:=⟨_,rfl⟩;rw [hxj] at HC2 hb3;have HXJ:=zjp hxj; clear hxj;go_wp2_with fail
    refine (bnext_any nb yb pb xb p xj (zh4 p k g) _ HC2.out HP.out hb3.1 hb3.2 Y0 Y1).mono ?_;rintro e wq ⟨rfl,hcq,hkq⟩;have hgq:=hkq.blk (by intro h; omega) HG2.out;have cq:wq.cell? ⟨gb,j,none⟩ = some (.int .i64 0):=by rw [cell_of_row _ _ _ _ _ _ hgq,row_cell _ _ _ _ _ hlt]
    have fq:=frozen_of_row _ _ j _ _ hgq;have zq:=zaa hgq;have HCQ:=zjp hcq; have HKQ:=zjp hkq; have HGQ:=zjp hgq;clear hcq hkq hgq HC2 HG2;go_wp2_with fail
    go_roundw
    case rel =>
     refine ⟨j + 1,by go_num,by omega,?_,?_,?_⟩
     ·rw [itN_succ,HXJ.out]; exact HCQ.out.set n1 n2 n3 n4
     ·rw [← prow_step _ _ _ _ _ hlt,HXJ.out]; exact zad HGQ.out
     ·exact (HK2.out.trans ⟨HKQ.out.os,HKQ.out.tape,HKQ.out.output,HKQ.out.size,fun i hi hn=>HKQ.out.block i hi (by have hn':i < w1.heap.size:=Nat.lt_of_not_le hn; intro h; rcases h with rfl | rfl <;> omega)⟩).set (p:=⟨gb,j,none⟩) m1 _
    case measure=>simp [intOf]; omega
   ·have hq:decide ((j:Int) < H) = false:=by simp; omega
    obtain rfl:j = H:=by omega
    go_wp2_with fail
    go_ret2
    refine ⟨_,rfl,?_,HB1.out.trans (HK2.out.below (B:=w.heap.size) (fun i hi h=>by have h':w1.heap.size≤i:=h; omega) hbz)⟩
    have hr:wr.heap[gb]? = some (.cells ((zbt p k g).flatMap encI).toArray 3 (0,0)):=by
     have:=HG2.out;rw [Nat.sub_self,List.replicate_zero,List.append_nil] at this;unfold zbt;rw [HH.out,Int.toNat_natCast]; exact this
    have hlen:j = (zbt p k g).length:=by unfold zbt; rw [zei,HH.out,Int.toNat_natCast]
    refine ⟨some ⟨gb,0,none⟩,j,by rw [← hlen]; rfl,by rw [← hlen]; exact Nat.le_refl _,fun h0=>⟨gb,0,rfl,by omega,zaa hr,fun i x hi u v hu=>fun_cell hr hi hu⟩⟩
end
section
open Go.RowKit
attribute [local go_sem] zag zaj
@[local go_sem] theorem za7 (a b:List UInt8):(⟨a.toArray⟩:ByteArray) ++ ⟨b.toArray⟩ = ⟨(a ++ b).toArray⟩:=by
 apply ByteArray.ext; simp
def SomeBool (D:Nat) (w:World) (e:Ending) (w':World):Prop:=∃ b:Bool,e = .returned (.bool b)∧Moved D w w'
def SomeText (D N:Nat) (w:World) (e:Ending) (w':World):Prop:=∃ l:List UInt8,e = .returned (zal l)∧l.length≤N∧Moved D w w'
theorem zfd (D:Nat) (w:World) (k:Int) (h:DeckAt w D) (hk:1≤k) (hk2:k≤1000000000) :
  Calls prog 34 #[.pointer (some ⟨D,0,none⟩),.int .i64 k] w (SomeBool D w):=by
 go_enter func34,ntmps34
 go_wp2_with fail
 refine (zc0 D _ k h hk hk2).mono ?_;rintro e w1 ⟨r,rfl,h0,h1,h2⟩;have H2:=zjp h2; clear h2;go_wp2_with fail
 go_ret;exact ⟨_,rfl,H2.out⟩
theorem Vec.moved {α:Type} {D:Nat} {w w':World} {k:Nat} {enc:α→List Value} {v:Value} {L:List α} (h:Vec w (fun b=>b≠D) k enc v L) (m:Moved D w w'):Vec w' (fun b=>b≠D) k enc v L :=
 h.move m.size fun b hb hD=>⟨m.grown.block b hb (by simp; omega),hD⟩
def PickPost (D:Nat) (L:List (List UInt8)) (w:World) (e:Ending) (w':World):Prop:=∃ l:List UInt8,e = .returned (zal l)∧l∈L∧Moved D w w'
theorem pick_any (D:Nat) (w:World) (v:Value) (L:List (List UInt8)) (h:DeckAt w D) (hV:Vec w (fun b=>b≠D) 1 zba v L) (h1:1≤L.length) (h2:L.length≤1000) :
  Calls prog 84 #[.pointer (some ⟨D,0,none⟩),v] w (PickPost D L w):=by
 obtain ⟨a,cap,rfl⟩:=hV.slice;have HV:=zjp hV;clear hV;go_enter func84,ntmps84
 go_wp2_with fail
 refine (zc0 D _ _ h (by omega) (by omega)).mono ?_;rintro e w1 ⟨r,rfl,r0,r1,mv⟩;have MV:=zjp mv; clear mv;obtain ⟨r,rfl⟩:=Int.eq_ofNat_of_zero_le r0;obtain ⟨b,off,rfl,_,hb,hc⟩:=zcc (HV.out.moved MV.out) (by omega);have hr:r < L.length:=by omega
 have hc1:=hc r hr;have hmem:L.getD r []∈L:=by rw [List.getD,List.getElem?_eq_getElem hr]; exact List.getElem_mem hr
 obtain ⟨x,hx⟩:∃ x,L.getD r [] = x:=⟨_,rfl⟩;rw [hx] at hc1 hmem;have HMem:=zjp hmem;clear hc hmem hx;go_wp2_with fail
 go_ret;exact ⟨x,rfl,HMem.out,MV.out⟩
end
section
open Go.RowKit
attribute [local go_sem] zag zaj za7
theorem one_byte (w:World) (a:UInt8):(convert 175 9 (.slice (some ⟨w.heap.size,0,none⟩) 1 1)).run prog (w.alloc (.cells #[.int .u8 a.toNat] 5)) = .ok (zal [a]) (w.alloc (.cells #[.int .u8 a.toNat] 5)):=by
 have ho:(w.alloc (.cells (([a]:List UInt8).map zf2).toArray 5)).ownsRow 0 5 1 (.slice (some ⟨w.heap.size,0,none⟩) 1 1) 1 (([a]:List UInt8).map zf2) :=
  ⟨by simp,.inr ⟨_,_,_,rfl,Nat.zero_le _,zac rfl,Nat.le_refl _,zdc (by omega),by simp,by simp⟩⟩
 exact zca [a] ho underlying175 underlying5 underlying9
end
section
open Go.RowKit
def EqL (a b:List UInt8):Prop:=∀ r,zbu [] (a ++ r) = zbu [] (b ++ r)
theorem EqL.refl (a:List UInt8):EqL a a:=fun _=>rfl
theorem EqL.app {a b:List UInt8} (h:EqL a b) (c:List UInt8):EqL (a ++ c) (b ++ c):=fun r=>by rw [List.append_assoc,List.append_assoc]; exact h _
theorem EqL.trans {a b c:List UInt8} (h:EqL a b) (h':EqL b c):EqL a c:=fun r=>(h r).trans (h' r)
theorem EqL.lead:EqL [32] []:=fun r=>zbn r
theorem toksA_two (l:List UInt8):∀ p r,zbu p (l ++ 32 :: 32 :: r) = zbu p (l ++ 32 :: r):=by
 induction l with
 | nil =>
  intro p r;simp only [List.nil_append];by_cases hp:p = []
  ·subst hp; rw [zbn]
  ·rw [zb0 _ _ hp,zb0 _ _ hp,zbn]
 | cons c l ih =>
  intro p r;simp only [List.cons_append];by_cases hc:c = 32
  ·subst hc
   by_cases hp:p = []
   ·subst hp; rw [zbn,zbn,ih]
   ·rw [zb0 _ _ hp,zb0 _ _ hp,ih]
  ·rw [zb4 _ _ _ hc,zb4 _ _ _ hc,ih]
theorem EqL.two (a:List UInt8):EqL (a ++ [32,32]) (a ++ [32]):=fun r=>by
 rw [List.append_assoc,List.append_assoc]; exact toksA_two a [] r
theorem toksA_last (l:List UInt8):∀ p,zbu p (l ++ [32]) = zbu p l:=by
 induction l with
 | nil =>
  intro p;simp only [List.nil_append];by_cases hp:p = []
  ·subst hp; rw [zbn]
  ·rw [zb0 _ _ hp,ze3 _ hp]; rfl
 | cons c l ih =>
  intro p;simp only [List.cons_append];by_cases hc:c = 32
  ·subst hc
   by_cases hp:p = []
   ·subst hp; rw [zbn,zbn,ih]
   ·rw [zb0 _ _ hp,zb0 _ _ hp,ih]
  ·rw [zb4 _ _ _ hc,zb4 _ _ _ hc,ih]
def allOk (l:List UInt8):Prop:=∀ b∈l,zff b = true
theorem allOk.app {a b:List UInt8} (h:allOk a) (h':allOk b):allOk (a ++ b):=fun c hc=>(List.mem_append.1 hc).elim (h c) (h' c)
def zgh (l:List UInt8):List UInt8:=l.flatMap zbo
theorem zcu (a b:List UInt8):zgh (a ++ b) = zgh a ++ zgh b:=List.flatMap_append
theorem byte_pair {a b:UInt8} (h:zff a = true):zi9 a b = false:=by
 rw [ok_iff,decide_eq_true_iff] at h;rw [zhu]; simp; omega
theorem raw_flat (l:List UInt8) (h:allOk l):rawL l = zgh l∧zct l = true:=by
 induction l using rawL.induct with
 | case1=>exact ⟨rfl,rfl⟩
 | case2 a=>exact ⟨by simp [rawL,zgh],by simp only [zct]; exact h a (by simp)⟩
 | case3 a b r hp ih=>exfalso; rw [byte_pair (h a (by simp))] at hp; cases hp
 | case4 a b r hp ih =>
  have hp':=byte_pair (a:=a) (b:=b) (h a (by simp));have:=ih fun x hx=>h x (List.mem_cons_of_mem _ hx)
  refine ⟨?_,?_⟩
  ·rw [rawL,hp']; simp only [Bool.false_eq_true,if_false]; rw [this.1]; simp [zgh]
  ·rw [zct,hp']; simp only [Bool.false_eq_true,if_false]; rw [this.2,h a (by simp)]; rfl
structure DressTo (p o:List UInt8):Prop where
 ok:allOk o
 eq:EqL (zgh o) p
 len:o.length≤1 + 2 * p.length
structure DressOf (l o:List UInt8):Prop where
 ok:allOk o
 eq:zcq (rawL o) = zcq l
 len:o.length≤2 + 2 * l.length
def dressA:List (List UInt8):=[[],[],[32],[45]]
def dressB:List (List UInt8):=[[32],[45],[44,32],[46],[32,32],[47]]
def dressC:List (List UInt8):=[[],[],[32],[46]]
theorem zb8 {l:List UInt8} (h:l.all zff = true):allOk l:=List.all_eq_true.1 h
theorem DressTo.start {o:List UInt8} (h:o∈dressA):DressTo [] o:=by
 simp [dressA] at h
 rcases h with rfl | rfl | rfl
 ·exact ⟨zb8 rfl,EqL.refl _,by simp⟩
 ·exact ⟨zb8 rfl,EqL.lead,by simp⟩
 ·exact ⟨zb8 rfl,EqL.lead,by simp⟩
theorem DressTo.space {p o x:List UInt8} (h:DressTo p o) (hx:x∈dressB):DressTo (p ++ [32]) (o ++ x):=by
 simp [dressB] at hx
 rcases hx with rfl | rfl | rfl | rfl | rfl | rfl
 ·exact ⟨h.ok.app (zb8 rfl),by rw [zcu]; exact h.eq.app [32],by have:=h.len; simp; omega⟩
 ·exact ⟨h.ok.app (zb8 rfl),by rw [zcu]; exact h.eq.app [32],by have:=h.len; simp; omega⟩
 ·exact ⟨h.ok.app (zb8 rfl),by rw [zcu]; exact (EqL.two _).trans (h.eq.app [32]),by have:=h.len; simp; omega⟩
 ·exact ⟨h.ok.app (zb8 rfl),by rw [zcu]; exact h.eq.app [32],by have:=h.len; simp; omega⟩
 ·exact ⟨h.ok.app (zb8 rfl),by rw [zcu]; exact (EqL.two _).trans (h.eq.app [32]),by have:=h.len; simp; omega⟩
 ·exact ⟨h.ok.app (zb8 rfl),by rw [zcu]; exact h.eq.app [32],by have:=h.len; simp; omega⟩
theorem DressTo.byte {p o:List UInt8} {c x:UInt8} (h:DressTo p o) (hx:zff x = true) (hp:zbo x = [c]):DressTo (p ++ [c]) (o ++ [x]) :=
 ⟨h.ok.app (fun b hb=>by simp at hb; subst hb; exact hx),by rw [zcu,show zgh [x] = [c] by simp [zgh,hp]]; exact h.eq.app [c],by have:=h.len; simp; omega⟩
theorem DressTo.mark {p o:List UInt8} {c x:UInt8} (h:DressTo p o) (hx:zff x = true) (hp:zbo x = [c]):DressTo (p ++ [c]) (o ++ [x] ++ [39]) :=
 ⟨(h.ok.app (fun b hb=>by simp at hb; subst hb; exact hx)).app (zb8 rfl),by rw [zcu,zcu,show zgh [39] = [] from rfl,List.append_nil,show zgh [x] = [c] by simp [zgh,hp]]; exact h.eq.app [c],by have:=h.len; simp; omega⟩
theorem DressTo.done {p o x:List UInt8} (h:DressTo p o) (hx:x∈dressC):DressOf p (o ++ x):=by
 have e:∀ q:List UInt8,zcq (zgh o ++ q) = zbu [] (p ++ q):=fun q=>h.eq q
 have e0:=h.eq [];simp only [List.append_nil] at e0;simp [dressC] at hx
 rcases hx with rfl | rfl | rfl
 ·exact ⟨h.ok.app (zb8 rfl),by rw [(raw_flat _ (h.ok.app (zb8 rfl))).1,List.append_nil]; exact e0,by have:=h.len; simp; omega⟩
 ·exact ⟨h.ok.app (zb8 rfl),by rw [(raw_flat _ (h.ok.app (zb8 rfl))).1,zcu]; exact (e [32]).trans (toksA_last p []),by have:=h.len; simp; omega⟩
 ·exact ⟨h.ok.app (zb8 rfl),by rw [(raw_flat _ (h.ok.app (zb8 rfl))).1,zcu]; exact (e [32]).trans (toksA_last p []),by have:=h.len; simp; omega⟩
theorem zhs {c:UInt8} (h:okB c = true):zff c = true∧zbo c = [c]:=⟨ok_byte h,ok_plain h⟩
theorem plain_up {c:UInt8} (h:zf0 c = true):zff (c - 32) = true∧zbo (c - 32) = [c]:=by
 rw [zdu,decide_eq_true_iff] at h
 have e:(c - 32).toNat = c.toNat - 32:=by
  rw [UInt8.toNat_sub_of_le]
  ·rfl
  ·rw [UInt8.le_iff_toNat_le]; show 32≤_; omega
 have hu:isUp (c - 32) = true:=by rw [up_iff,decide_eq_true_iff,e]; omega
 refine ⟨?_,?_⟩
 ·rw [ok_iff,decide_eq_true_iff,e]; omega
 ·unfold zbo; rw [if_pos hu,UInt8.sub_add_cancel]
end
section
open Go.RowKit
def t1L:List (List UInt8):=[[100,114],[118,97,110]]
def n1L:List P2:=[([97,110,110,97],[97,110,110]),([98,111,98],[114,111,98,101,114,116])]
def s1L:List P2:=[([114,100],[114,111,97,100]),([115,116],[115,116,114,101,101,116])]
structure RulesD (r:RulesL):Prop where
 t:r.titles = []∨r.titles = t1L
 n:r.nicks = []∨r.nicks = n1L
 s:r.streets = []∨r.streets = s1L
theorem RulesD.check {r:RulesL} (h:RulesD r):zay r = 0:=by
 obtain ⟨t,n,s⟩:=r;obtain ⟨h1,h2,h3⟩:=h;dsimp only at h1 h2 h3
 rcases h1 with rfl | rfl <;> rcases h2 with rfl | rfl <;> rcases h3 with rfl | rfl <;> decide
def namesD:List (List UInt8):=[[102,97,109,105,108,121],[103,105,118,101,110],[98,105,114,116,104],[115,116,114,101,101,116],[99,111,100,101]]
structure FieldsD (F:List F2):Prop where
 len:F.length≤4
 names:F.map (·.1) = namesD.take F.length
 kinds:∀ x∈F,1≤x.2∧x.2≤4
theorem FieldsD.nil:FieldsD []:=⟨by simp,rfl,by simp⟩
theorem FieldsD.snoc {F:List F2} (h:FieldsD F) (hl:F.length < 4) {k:Int} (h1:1≤k) (h2:k≤4):FieldsD (F ++ [(namesD.getD F.length [],k)]):=by
 refine ⟨by simp; omega,?_,fun x hx=>?_⟩
 ·have hn:F.length < namesD.length:=by show F.length < 5; omega
  rw [List.map_append,h.names,List.length_append,List.length_singleton,List.take_succ_eq_append_getElem hn,List.getD,List.getElem?_eq_getElem hn];rfl
 ·rcases List.mem_append.1 hx with hx | hx
  ·exact h.kinds x hx
  ·simp at hx; subst hx; exact ⟨h1,h2⟩
theorem names_ok:∀ n:Fin 5,∀ j:Fin n,(wordB (namesD.getD j []) && !(((namesD.take n).take j).any fun x=>x == namesD.getD j [])) = true:=by decide
theorem FieldsD.check {F:List F2} (h:FieldsD F) (h1:1≤F.length) {r:RulesL} (hr:zay r = 0):zax ⟨F,r⟩ = 0:=by
 have hl:=h.len
 have hf:zfs F = true:=by
  refine List.all_eq_true.2 fun j hj=>?_
  have hj':j < F.length:=List.mem_range.1 hj;have hk:=names_ok ⟨F.length,by omega⟩ ⟨j,hj'⟩
  have e1:(F.getD j default).1 = namesD.getD j []:=by
   have hjn:j < (F.map (·.1)).length:=by simpa using hj'
   have:(F.map (·.1)).getD j [] = namesD.getD j []:=by
    rw [h.names,List.getD,List.getElem?_take,if_pos hj',List.getD]
   rw [← this,List.getD,List.getElem?_eq_getElem hj',List.getD,List.getElem?_map,List.getElem?_eq_getElem hj']; rfl
  have e2:((F.take j).any fun x=>x.1 == (F.getD j default).1) = ((namesD.take F.length).take j).any fun x=>x == namesD.getD j []:=by
   rw [e1,← h.names,← List.map_take,List.any_map]; rfl
  have hm:F.getD j default∈F:=by rw [List.getD,List.getElem?_eq_getElem hj']; exact List.getElem_mem hj'
  obtain ⟨k1,k2⟩:=h.kinds _ hm;unfold zb9;rw [e2,e1];dsimp only at hk;rw [hk,decide_eq_true k1,decide_eq_true k2]; rfl
 unfold zax;rw [if_neg (by dsimp only; omega),if_pos hf]; exact hr
end
section
open Go.RowKit
attribute [local go_sem] zag zaj za7
theorem ze0 {w:World} {A:Nat} {α:Type} {k:Nat} {enc:α→List Value} (hk:∀ x,(enc x).length = k) {t:TypeId} {L:List α} {S:Nat→Prop} (h:w.heap[A]? = some (.cells (L.flatMap enc).toArray t (0,0))) (hS:S A) (n:Nat) (hn:n = L.length):Vec w S k enc (.slice (some ⟨A,0,none⟩) n n) L:=by
 subst hn
 refine ⟨_,_,rfl,Nat.le_refl _,fun _=>⟨A,0,rfl,hS,zaa h,fun j x hj i u hu=>?_⟩⟩
 have hi:i < k:=by rw [← hk x]; exact (List.getElem?_eq_some_iff.1 hu).1
 rw [cell_of_row _ _ _ _ _ _ h,Nat.zero_add,List.getElem?_toArray,zf8 hk L j x hj i hi];exact hu
theorem Vec.put {α:Type} {w:World} {S:Nat→Prop} {k:Nat} {enc:α→List Value} {v:Value} {L:List α} (h:Vec w S k enc v L) {a:Addr} (ha:∀ b,S b→b≠a.block) (x:Value) (o:Obj):Vec ((w.setCell a x).alloc o) S k enc v L :=
 h.move (by simp [World.setCell]) fun b hb hS=>⟨by rw [heap_alloc_old _ _ (by simpa [World.setCell] using hb),heap_setCell_other _ _ _ _ (ha b hS)],hS⟩
theorem Vec.weaken {α:Type} {w:World} {S S':Nat→Prop} {k:Nat} {enc:α→List Value} {v:Value} {L:List α} (h:Vec w S k enc v L) (hs:∀ b,S b→S' b):Vec w S' k enc v L:=h.move xnl fun b _ h=>⟨rfl,hs b h⟩
theorem set_new (v:World) (a:Addr) (x:Value) (o:Obj):((v.setCell a x).alloc o).heap[v.heap.size]? = some o:=zac (by simp [World.setCell])
theorem Vec.set1 {α:Type} {w:World} {S:Nat→Prop} {k:Nat} {enc:α→List Value} {v:Value} {L:List α} (h:Vec w S k enc v L) {a:Addr} (ha:∀ b,S b→b≠a.block) (x:Value):Vec (w.setCell a x) S k enc v L :=
 h.move (by simp [World.setCell]) fun b hb hS=>⟨by rw [heap_setCell_other _ _ _ _ (ha b hS)],hS⟩
theorem RulesAt.set3 {w:World} {S:Nat→Prop} {vt vn vs:Value} {r:RulesL} (h:RulesAt w S vt vn vs r) {a b c:Addr} (ha:∀ k,S k→k≠a.block) (hb:∀ k,S k→k≠b.block) (hc:∀ k,S k→k≠c.block) (x y z:Value):RulesAt (((w.setCell a x).setCell b y).setCell c z) S vt vn vs r :=
 ⟨((h.1.set1 ha x).set1 hb y).set1 hc z,((h.2.1.set1 ha x).set1 hb y).set1 hc z,((h.2.2.set1 ha x).set1 hb y).set1 hc z⟩
theorem RulesAt.weaken {w:World} {S S':Nat→Prop} {vt vn vs:Value} {r:RulesL} (h:RulesAt w S vt vn vs r) (hs:∀ b,S b→S' b):RulesAt w S' vt vn vs r:=⟨h.1.weaken hs,h.2.1.weaken hs,h.2.2.weaken hs⟩
def RMid (D:Nat) (w wc:World):Prop:=∃ vt vn vs r,wc.heap[w.heap.size]? = some (.cells #[.slice none 0 0,.slice none 0 0,.slice none 0 0] 31 (0,0))∧wc.heap[w.heap.size + 1]? = some (.cells #[vt,vn,vs] 31 (0,0))∧RulesAt wc (fun b=>w.heap.size + 1 < b) vt vn vs r∧RulesD r∧Moved D w wc
theorem RMid.moved {D:Nat} {w wc wd:World} (h:RMid D w wc) (hD:D < w.heap.size) (m:Moved D wc wd):RMid D w wd:=by
 obtain ⟨vt,vn,vs,r,hz,hy,hr,hd,hm⟩:=h;refine ⟨vt,vn,vs,r,m.blk (by omega) hz,m.blk (by omega) hy,?_,hd,hm.trans m⟩;exact ⟨hr.1.move m.size fun b hb hS=>⟨m.grown.block b hb (by simp; omega),hS⟩,hr.2.1.move m.size fun b hb hS=>⟨m.grown.block b hb (by simp; omega),hS⟩,hr.2.2.move m.size fun b hb hS=>⟨m.grown.block b hb (by simp; omega),hS⟩⟩
theorem rmid_t {D:Nat} {w v:World} {vt vn vs:Value} {r:RulesL} (hD:D < w.heap.size) (hz:v.heap[w.heap.size]? = some (.cells #[.slice none 0 0,.slice none 0 0,.slice none 0 0] 31 (0,0))) (hy:v.heap[w.heap.size + 1]? = some (.cells #[vt,vn,vs] 31 (0,0))) (hr:RulesAt v (fun b=>w.heap.size + 1 < b) vt vn vs r) (hd:RulesD r) (hm:Moved D w v) :
  RMid D w ((v.setCell ⟨w.heap.size + 1,0,none⟩ (.slice (some ⟨v.heap.size,0,none⟩) 2 2)).alloc (.cells (t1L.flatMap zba).toArray 9)):=by
 have h1:=zaa hy;refine ⟨_,vn,vs,⟨t1L,r.nicks,r.streets⟩,zaf (zan hz (by simp)),zaf (zad hy),⟨ze0 (k:=1) (enc:=zba) (L:=t1L) (S:=fun b=>w.heap.size + 1 < b) (A:=v.heap.size) (fun _=>rfl) (set_new _ _ _ _) (by omega) 2 rfl,hr.2.1.put (fun b h=>by simp at h ⊢; omega) _ _,hr.2.2.put (fun b h=>by simp at h ⊢; omega) _ _⟩,⟨.inr rfl,hd.n,hd.s⟩,(hm.set (by simp) _).alloc _⟩
theorem rmid_n {D:Nat} {w v:World} {vt vn vs:Value} {r:RulesL} (hD:D < w.heap.size) (hz:v.heap[w.heap.size]? = some (.cells #[.slice none 0 0,.slice none 0 0,.slice none 0 0] 31 (0,0))) (hy:v.heap[w.heap.size + 1]? = some (.cells #[vt,vn,vs] 31 (0,0))) (hr:RulesAt v (fun b=>w.heap.size + 1 < b) vt vn vs r) (hd:RulesD r) (hm:Moved D w v) :
  RMid D w ((v.setCell ⟨w.heap.size + 1,1,none⟩ (.slice (some ⟨v.heap.size,0,none⟩) 2 2)).alloc (.cells (n1L.flatMap encP).toArray 122)):=by
 have h1:=zaa hy;refine ⟨vt,_,vs,⟨r.titles,n1L,r.streets⟩,zaf (zan hz (by simp)),zaf (zad hy),⟨hr.1.put (fun b h=>by simp at h ⊢; omega) _ _,ze0 (k:=2) (enc:=encP) (L:=n1L) (S:=fun b=>w.heap.size + 1 < b) (A:=v.heap.size) (fun _=>rfl) (set_new _ _ _ _) (by omega) 2 rfl,hr.2.2.put (fun b h=>by simp at h ⊢; omega) _ _⟩,⟨hd.t,.inr rfl,hd.s⟩,(hm.set (by simp) _).alloc _⟩
theorem rmid_s {D:Nat} {w v:World} {vt vn vs:Value} {r:RulesL} (hD:D < w.heap.size) (hz:v.heap[w.heap.size]? = some (.cells #[.slice none 0 0,.slice none 0 0,.slice none 0 0] 31 (0,0))) (hy:v.heap[w.heap.size + 1]? = some (.cells #[vt,vn,vs] 31 (0,0))) (hr:RulesAt v (fun b=>w.heap.size + 1 < b) vt vn vs r) (hd:RulesD r) (hm:Moved D w v) :
  RMid D w ((v.setCell ⟨w.heap.size + 1,2,none⟩ (.slice (some ⟨v.heap.size,0,none⟩) 2 2)).alloc (.cells (s1L.flatMap encP).toArray 122)):=by
 have h1:=zaa hy;refine ⟨vt,vn,_,⟨r.titles,r.nicks,s1L⟩,zaf (zan hz (by simp)),zaf (zad hy),⟨hr.1.put (fun b h=>by simp at h ⊢; omega) _ _,hr.2.1.put (fun b h=>by simp at h ⊢; omega) _ _,ze0 (k:=2) (enc:=encP) (L:=s1L) (S:=fun b=>w.heap.size + 1 < b) (A:=v.heap.size) (fun _=>rfl) (set_new _ _ _ _) (by omega) 2 rfl⟩,⟨hd.t,hd.n,.inr rfl⟩,(hm.set (by simp) _).alloc _⟩
def RulesPost (D:Nat) (w:World) (e:Ending) (w':World):Prop:=∃ vt vn vs r,e = .returned (.agg #[vt,vn,vs])∧RulesAt w' (fun b=>w.heap.size≤b) vt vn vs r∧RulesD r∧Moved D w w'
theorem rules_deal (D:Nat) (w:World) (h:DeckAt w D) :
  Calls prog 33 #[.pointer (some ⟨D,0,none⟩)] w (RulesPost D w):=by
 have zD:=h.lt;have HD:=zjp h;clear h;go_enter func33,ntmps33
 go_wp2_with fail
 have K:=zjp (show RMid D w ((w.alloc (.cells #[.slice none 0 0,.slice none 0 0,.slice none 0 0] 31)).alloc (.cells #[.slice none 0 0,.slice none 0 0,.slice none 0 0] 31)) from
  ⟨_,_,_,⟨[],[],[]⟩,zaf (zac rfl),zac (by simp),⟨Vec.nil _ _ _ _,Vec.nil _ _ _ _,Vec.nil _ _ _ _⟩,⟨.inl rfl,.inl rfl,.inl rfl⟩,((Moved.start HD.out).alloc _).alloc _⟩)
 refine (zfd D _ 2 (by obtain ⟨_,_,_,_,_,_,_,_,m⟩:=K.out; exact m.deck) (by omega) (by omega)).mono ?_;rintro e v0 ⟨u,rfl,mv⟩;have K0:=zjp (K.out.moved zD mv);clear K mv;go_upto_if 5 with fail
 go_cut [] (fun wc=>RMid D w wc)
 case first =>
  obtain ⟨vt,vn,vs,r,hz,hy,hr,hd,hm⟩:=K0.out;have HZ:=zjp hz; have HY:=zjp hy; have HR:=zjp hr; have HDd:=zjp hd; have HM:=zjp hm;obtain ⟨c0,c1,c2⟩:=zao hy; obtain ⟨f0,f1,f2⟩:=free3 hy;have q:=zaa hy;clear hz hy hr hd hm;cases u
  ·go_wp2_with fail
   go_meet;exact K0.out
  ·go_wp2_with fail
   go_meet;exact rmid_t zD HZ.out HY.out HR.out HDd.out HM.out
 case rest =>
  have K1:=zjp hcut; clear hcut K0;go_wp2_with fail
  refine (zfd D _ 2 (by obtain ⟨_,_,_,_,_,_,_,_,m⟩:=K1.out; exact m.deck) (by omega) (by omega)).mono ?_;rintro e v1 ⟨u,rfl,mv⟩;have K2:=zjp (K1.out.moved zD mv);clear K1 mv;go_upto_if 9 with fail
  go_cut [] (fun wc=>RMid D w wc)
  case first =>
   obtain ⟨vt,vn,vs,r,hz,hy,hr,hd,hm⟩:=K2.out;have HZ:=zjp hz; have HY:=zjp hy; have HR:=zjp hr; have HDd:=zjp hd; have HM:=zjp hm;obtain ⟨c0,c1,c2⟩:=zao hy; obtain ⟨f0,f1,f2⟩:=free3 hy;have q:=zaa hy;clear hz hy hr hd hm;cases u
   ·go_wp2_with fail
    go_meet;exact K2.out
   ·go_wp2_with fail
    go_meet;exact rmid_n zD HZ.out HY.out HR.out HDd.out HM.out
  case rest =>
   have K3:=zjp hcut; clear hcut K2;go_wp2_with fail
   refine (zfd D _ 2 (by obtain ⟨_,_,_,_,_,_,_,_,m⟩:=K3.out; exact m.deck) (by omega) (by omega)).mono ?_;rintro e v2 ⟨u,rfl,mv⟩;have K4:=zjp (K3.out.moved zD mv);clear K3 mv;go_upto_if 15 with fail
   go_cut [] (fun wc=>RMid D w wc)
   case first =>
    obtain ⟨vt,vn,vs,r,hz,hy,hr,hd,hm⟩:=K4.out;have HZ:=zjp hz; have HY:=zjp hy; have HR:=zjp hr; have HDd:=zjp hd; have HM:=zjp hm;obtain ⟨c0,c1,c2⟩:=zao hy; obtain ⟨f0,f1,f2⟩:=free3 hy;have q:=zaa hy;clear hz hy hr hd hm;cases u
    ·go_wp2_with fail
     go_meet;exact K4.out
    ·go_wp2_with fail
     go_meet;exact rmid_s zD HZ.out HY.out HR.out HDd.out HM.out
   case rest =>
    obtain ⟨vt,vn,vs,r,hz,hy,hr,hd,hm⟩:=hcut;obtain ⟨at',ct,rfl⟩:=hr.1.slice;obtain ⟨an,cn,rfl⟩:=hr.2.1.slice;obtain ⟨as',cs,rfl⟩:=hr.2.2.slice;have HZ:=zjp hz; have HY:=zjp hy; have HR:=zjp hr; have HDd:=zjp hd; have HM:=zjp hm;obtain ⟨c0,c1,c2⟩:=zao hy; obtain ⟨f0,f1,f2⟩:=free3 hy;obtain ⟨d0,d1,d2⟩:=zao hz; obtain ⟨g0,g1,g2⟩:=free3 hz;have q:=zaa hy; have q':=zaa hz;clear hz hy hr hd hm K4;go_wp2_with fail
    have hz:=zad (i:=2) (v:=.slice as' r.streets.length cs) (zad (i:=1) (v:=.slice an r.nicks.length cn) (zad (i:=0) (v:=.slice at' r.titles.length ct) HZ.out));have hm:=((HM.out.set (a:=⟨w.heap.size,0,none⟩) xnl (.slice at' r.titles.length ct)).set (a:=⟨w.heap.size,1,none⟩) xnl (.slice an r.nicks.length cn)).set (a:=⟨w.heap.size,2,none⟩) xnl (.slice as' r.streets.length cs);have hr:=HR.out.set3 (a:=⟨w.heap.size,0,none⟩) (b:=⟨w.heap.size,1,none⟩) (c:=⟨w.heap.size,2,none⟩) (fun b h=>by simp at h ⊢; omega) (fun b h=>by simp at h ⊢; omega) (fun b h=>by simp at h ⊢; omega) (.slice at' r.titles.length ct) (.slice an r.nicks.length cn) (.slice as' r.streets.length cs)
    exact za4 rfl rfl hz underlying31 rfl (by kernel_rfl) ⟨_,_,_,r,rfl,hr.weaken fun b h=>by have h':w.heap.size + 1 < b:=h; show w.heap.size≤b; omega,HDd.out,hm⟩
end
end Go.Proofs.YtgkaafncfjlooaaGreatDoor
