/-
 Contracts and laws, joined. Conditions: those of each.
-/
import Derived.Test.YtkfjmgmjbljnbaaGreatDoorQGT
import Derived.Test.YtkfjmgmjbljnbaaGreatDoorQGA
import Derived.Test.YtkfjmgmjbljnbaaGreatDoorQShelf
import Derived.Laws.Externs
import Derived.WalkKit
import Derived.WalkSpells
import Derived.WalkLawsBesides
import Derived.Lib.Hide
import Derived.Test.YtkfjmgmjbljnbaaGreatDoorQZF
import Derived.Test.YtkfjmgmjbljnbaaGreatDoorQGX
import Derived.Test.YtkfjmgmjbljnbaaGreatDoorQPlainTyped
import Derived.Test.YtkfjmgmjbljnbaaGreatDoorQGW
import Derived.Test.YtkfjmgmjbljnbaaGreatDoorQZE
import Derived.Test.YtkfjmgmjbljnbaaGreatDoorQEval4
import Derived.Deep.RegionHeldLaw
set_option maxRecDepth 100000
set_option maxHeartbeats 8000000
namespace Go.Proofs.YtkfjmgmjbljnbaaGreatDoor
open Go.RowKit
theorem r1size_any (n:Int) (w:World) (h:Lp.inR n) :
 Calls Tryz.prog 49 #[.int .i64 n] w fun e w'=>e=.returned (.int .u64 (Lp.mag n))∧w=w':=by
 obtain ⟨h1,h2⟩:=h
 by_cases hn:n<0
 ·rw [Lp.mag_neg hn]
  go_enter Tryz.func49,Tryz.ntmps49
  go_wp2
  go_ret
  exact ⟨rfl,rfl⟩
 ·rw [Lp.mag_pos hn]
  have hn':0≤n:=by omega
  go_enter Tryz.func49,Tryz.ntmps49
  go_wp2
  go_ret
  exact ⟨rfl,rfl⟩
theorem r1sign_any (s:Int) (below:Bool) (w:World) (h0:0≤s) (h1:s<18446744073709551616) :
 Calls Tryz.prog 50 #[.int .u64 s,.bool below] w fun e w'=>e=.returned (.tuple #[.int .i64 (Lp.sgV s below),.bool (Lp.sgOk s below)])∧w=w':=by
 cases below
 ·by_cases h2:9223372036854775808≤s
  ·rw [Lp.sgV_ff h2,Lp.sgOk_ff h2]
   go_enter Tryz.func50,Tryz.ntmps50
   go_wp2
   go_ret2
   exact ⟨rfl,rfl⟩
  ·rw [Lp.sgV_ft h0 h2,Lp.sgOk_ft h0 h2]
   go_enter Tryz.func50,Tryz.ntmps50
   go_wp2
   go_ret2
   exact ⟨rfl,rfl⟩
 ·by_cases h2:9223372036854775808<s
  ·rw [Lp.sgV_tf h2,Lp.sgOk_tf h2]
   go_enter Tryz.func50,Tryz.ntmps50
   go_wp2
   go_ret2
   exact ⟨rfl,rfl⟩
  ·rw [Lp.sgV_tt h0 h2,Lp.sgOk_tt h0 h2]
   by_cases h3:s=9223372036854775808
   ·subst h3
    go_enter Tryz.func50,Tryz.ntmps50
    go_wp2
    go_ret2
    exact ⟨rfl,rfl⟩
   ·have h4:s<9223372036854775808:=by omega
    clear h3 h2
    go_enter Tryz.func50,Tryz.ntmps50
    go_wp2
    go_ret2
    exact ⟨rfl,rfl⟩
theorem ranswer_any (n:Int) (ok:Bool) (w:World) :
 Calls Tryz.prog 51 #[.int .i64 n,.bool ok] w fun e w'=>e=.returned (.tuple #[.int .i64 (Lp.tv ok n),.int .i64 (Lp.te ok)])∧w=w':=by
 cases ok
 ·go_enter Tryz.func51,Tryz.ntmps51
  go_wp2
  go_ret2
  exact ⟨rfl,rfl⟩
 ·go_enter Tryz.func51,Tryz.ntmps51
  go_wp2
  go_ret2
  exact ⟨rfl,rfl⟩
theorem radd64 (x y:Int) (hx:0≤x) (hy:0≤y) (w:World):(callFunc 48 #[.int .u64 x,.int .u64 y,.int .u64 0]).run Tryz.prog w =
 .ok (.value (.tuple #[.int .u64 (Lp.low (x+y)),.int .u64 (Lp.high (x+y))])) w:=by
 rw [run_callFunc_extern Tryz.func48 (by kernel_rfl) (by kernel_rfl) (by kernel_rfl) (e:=add64Entry) (by kernel_rfl),run_add64 x y 0 hx hy (by decide) (by decide)]
 simp [Result.andThen,Lp.low,Lp.high]
theorem radd_any (a b:Int) (w:World) (ha:Lp.inR a) (hb:Lp.inR b) :
 Calls Tryz.prog 22 #[.int .i64 a,.int .i64 b] w fun e w'=>e=.returned (.tuple #[.int .i64 (Lp.val (a+b)),.int .i64 (Lp.err (a+b))])∧w=w':=by
 by_cases h1:(decide (a<0)==decide (b<0))=true
 ·rw [←Lp.add_signed h1, ←Lp.rtv _ (Lp.mag_add a b), ←Lp.rte _ (Lp.mag_add a b)]
  obtain ⟨l1,l2⟩:=Lp.low_bd (Lp.mag a+Lp.mag b)
  go_enter Tryz.func22,Tryz.ntmps22
  go_wp2_with (first|(go_at_call 49;refine (r1size_any _ _ (by assumption)).mono ?_;rintro e w' ⟨rfl,rfl⟩)|simp only [radd64 (Lp.mag a) (Lp.mag b) (Lp.mag_nonneg a) (Lp.mag_nonneg b)]|(go_at_call 50;refine (r1sign_any _ _ _ l1 l2).mono ?_;rintro e w' ⟨rfl,rfl⟩)|(go_at_call 51;refine (ranswer_any _ _ _).mono ?_;rintro e w' ⟨rfl,rfl⟩))
  all_goals
   go_ret2
   simp_all
 ·have ma:=Lp.mag_le ha
  have mb:=Lp.mag_le hb
  have na:=Lp.mag_nonneg a
  have nb:=Lp.mag_nonneg b
  by_cases h2:Lp.mag b≤Lp.mag a
  ·rw [←Lp.add_signed1 h1, ←Lp.tv_sg, ←Lp.te_sg]
   go_enter Tryz.func22,Tryz.ntmps22
   go_wp2_with (first|(go_at_call 49;refine (r1size_any _ _ (by assumption)).mono ?_;rintro e w' ⟨rfl,rfl⟩)|(go_at_call 50;refine (r1sign_any _ _ _ (by omega) (by omega)).mono ?_;rintro e w' ⟨rfl,rfl⟩)|(go_at_call 51;refine (ranswer_any _ _ _).mono ?_;rintro e w' ⟨rfl,rfl⟩))
   go_ret2
   exact ⟨rfl,rfl⟩
  ·rw [←Lp.add_signed2 h1, ←Lp.tv_sg, ←Lp.te_sg]
   go_enter Tryz.func22,Tryz.ntmps22
   go_wp2_with (first|(go_at_call 49;refine (r1size_any _ _ (by assumption)).mono ?_;rintro e w' ⟨rfl,rfl⟩)|(go_at_call 50;refine (r1sign_any _ _ _ (by omega) (by omega)).mono ?_;rintro e w' ⟨rfl,rfl⟩)|(go_at_call 51;refine (ranswer_any _ _ _).mono ?_;rintro e w' ⟨rfl,rfl⟩))
   go_ret2
   exact ⟨rfl,rfl⟩
theorem rsub_any (a b:Int) (w:World) (ha:Lp.inR a) (hb:Lp.inR b) :
 Calls Tryz.prog 97 #[.int .i64 a,.int .i64 b] w fun e w'=>e=.returned (.tuple #[.int .i64 (Lp.val (a-b)),.int .i64 (Lp.err (a-b))])∧w=w':=by
 by_cases h1:(decide (a<0)==decide (b<0))=true
 ·have ma:=Lp.mag_le ha
  have mb:=Lp.mag_le hb
  have na:=Lp.mag_nonneg a
  have nb:=Lp.mag_nonneg b
  by_cases h2:Lp.mag b≤Lp.mag a
  ·rw [←Lp.sub_signed1 h1, ←Lp.tv_sg, ←Lp.te_sg]
   go_enter Tryz.func97,Tryz.ntmps97
   go_wp2_with (first|(go_at_call 49;refine (r1size_any _ _ (by assumption)).mono ?_;rintro e w' ⟨rfl,rfl⟩)|(go_at_call 50;refine (r1sign_any _ _ _ (by omega) (by omega)).mono ?_;rintro e w' ⟨rfl,rfl⟩)|(go_at_call 51;refine (ranswer_any _ _ _).mono ?_;rintro e w' ⟨rfl,rfl⟩))
   go_ret2
   exact ⟨rfl,rfl⟩
  ·rw [←Lp.sub_signed2 h1, ←Lp.tv_sg, ←Lp.te_sg]
   go_enter Tryz.func97,Tryz.ntmps97
   go_wp2_with (first|(go_at_call 49;refine (r1size_any _ _ (by assumption)).mono ?_;rintro e w' ⟨rfl,rfl⟩)|(go_at_call 50;refine (r1sign_any _ _ _ (by omega) (by omega)).mono ?_;rintro e w' ⟨rfl,rfl⟩)|(go_at_call 51;refine (ranswer_any _ _ _).mono ?_;rintro e w' ⟨rfl,rfl⟩))
   go_ret2
   exact ⟨rfl,rfl⟩
 ·have h1':(decide (a<0)==decide (b<0))=false:=by simpa using h1
  rw [←Lp.sub_signed h1, ←Lp.rtv _ (Lp.mag_add a b), ←Lp.rte _ (Lp.mag_add a b)]
  obtain ⟨l1,l2⟩:=Lp.low_bd (Lp.mag a+Lp.mag b)
  clear h1
  go_enter Tryz.func97,Tryz.ntmps97
  go_wp2_with (first|(go_at_call 49;refine (r1size_any _ _ (by assumption)).mono ?_;rintro e w' ⟨rfl,rfl⟩)|simp only [radd64 (Lp.mag a) (Lp.mag b) (Lp.mag_nonneg a) (Lp.mag_nonneg b)]|(go_at_call 50;refine (r1sign_any _ _ _ l1 l2).mono ?_;rintro e w' ⟨rfl,rfl⟩)|(go_at_call 51;refine (ranswer_any _ _ _).mono ?_;rintro e w' ⟨rfl,rfl⟩))
  all_goals
   go_ret2
   simp_all
theorem rneg_any (a:Int) (w:World) (ha:Lp.inR a) :
 Calls Tryz.prog 56 #[.int .i64 a] w fun e w'=>e=.returned (.tuple #[.int .i64 (Lp.val (-a)),.int .i64 (Lp.err (-a))])∧w=w':=by
 rw [←Lp.neg_signed, ←Lp.tv_sg, ←Lp.te_sg]
 have ma:=Lp.mag_le ha
 have na:=Lp.mag_nonneg a
 go_enter Tryz.func56,Tryz.ntmps56
 go_wp2_with (first|(go_at_call 49;refine (r1size_any _ _ (by assumption)).mono ?_;rintro e w' ⟨rfl,rfl⟩)|(go_at_call 50;refine (r1sign_any _ _ _ (by omega) (by omega)).mono ?_;rintro e w' ⟨rfl,rfl⟩)|(go_at_call 51;refine (ranswer_any _ _ _).mono ?_;rintro e w' ⟨rfl,rfl⟩))
 go_ret2
 exact ⟨rfl,rfl⟩
theorem rmul64 (x y:Int) (hx:0≤x) (hy:0≤y) (hx1:x<18446744073709551616) (hy1:y<18446744073709551616) (w:World) :
 Calls Tryz.prog 137 #[.int .u64 x,.int .u64 y] w fun e w'=>e=.returned (.tuple #[.int .u64 (Lp.high (x*y)),.int .u64 (Lp.low (x*y))])∧w=w':=by
 obtain ⟨x,rfl⟩:=Int.eq_ofNat_of_zero_le hx
 obtain ⟨y,rfl⟩:=Int.eq_ofNat_of_zero_le hy
 refine (Tryz.bits_Mul64 x y (by omega) (by omega) w).mono ?_
 rintro e w' ⟨rfl,rfl⟩
 exact ⟨rfl,rfl⟩
theorem rmul_any (a b:Int) (w:World) (ha:Lp.inR a) (hb:Lp.inR b) :
 Calls Tryz.prog 98 #[.int .i64 a,.int .i64 b] w fun e w'=>e=.returned (.tuple #[.int .i64 (Lp.val (a*b)),.int .i64 (Lp.err (a*b))])∧w=w':=by
 have na:=Lp.mag_nonneg a
 have nb:=Lp.mag_nonneg b
 rw [←Lp.mul_signed, ←Lp.rtv _ (Int.mul_nonneg na nb), ←Lp.rte _ (Int.mul_nonneg na nb)]
 have ma:=Lp.mag_le ha
 have mb:=Lp.mag_le hb
 obtain ⟨l1,l2⟩:=Lp.low_bd (Lp.mag a*Lp.mag b)
 go_enter Tryz.func98,Tryz.ntmps98
 go_wp2_with (first|(go_at_call 49;refine (r1size_any _ _ (by assumption)).mono ?_;rintro e w' ⟨rfl,rfl⟩)|(go_at_call 137;refine (rmul64 _ _ na nb (by omega) (by omega) _).mono ?_;rintro e w' ⟨rfl,rfl⟩)|(go_at_call 50;refine (r1sign_any _ _ _ l1 l2).mono ?_;rintro e w' ⟨rfl,rfl⟩)|(go_at_call 51;refine (ranswer_any _ _ _).mono ?_;rintro e w' ⟨rfl,rfl⟩))
 all_goals
  go_ret2
  simp_all [bne]
theorem rdiv_any (a b:Int) (w:World) (ha:Lp.inR a) (hb:Lp.inR b) :
 Calls Tryz.prog 99 #[.int .i64 a,.int .i64 b] w fun e w'=>e=.returned (.tuple #[.int .i64 (Lp.divV a b),.int .i64 (Lp.divE a b)])∧w=w':=by
 by_cases h1:b=0
 ·subst h1
  rw [Lp.divV_zero,Lp.divE_zero]
  go_enter Tryz.func99,Tryz.ntmps99
  go_wp2
  go_ret2
  exact ⟨rfl,rfl⟩
 ·rw [Lp.divV_no h1,Lp.divE_no h1, ←Lp.div_signed, ←Lp.tv_sg, ←Lp.te_sg]
  have ma:=Lp.mag_le ha
  have na:=Lp.mag_nonneg a
  have mb:=Lp.mag_pos' h1
  obtain ⟨d0,d1⟩:=Lp.mag_div a b
  go_enter Tryz.func99,Tryz.ntmps99
  go_wp2_with (first|(go_at_call 49;refine (r1size_any _ _ (by assumption)).mono ?_;rintro e w' ⟨rfl,rfl⟩)|(go_at_call 50;refine (r1sign_any _ _ _ d0 (by omega)).mono ?_;rintro e w' ⟨rfl,rfl⟩)|(go_at_call 51;refine (ranswer_any _ _ _).mono ?_;rintro e w' ⟨rfl,rfl⟩))
  go_ret2
  exact ⟨rfl,rfl⟩
theorem rmod_any (a b:Int) (w:World) (ha:Lp.inR a) (hb:Lp.inR b) :
 Calls Tryz.prog 100 #[.int .i64 a,.int .i64 b] w fun e w'=>e=.returned (.tuple #[.int .i64 (Lp.modV a b),.int .i64 (Lp.zerE b)])∧w=w':=by
 by_cases h1:b=0
 ·subst h1
  go_enter Tryz.func100,Tryz.ntmps100
  go_wp2
  go_ret2
  exact ⟨rfl,rfl⟩
 ·have e1:=Lp.val_in (Lp.val_mod a h1 hb)
  have e2:=Lp.err_in (Lp.val_mod a h1 hb)
  rw [Lp.modV_no h1,Lp.zerE_no h1, ←e1, ←e2, ←Lp.mod_signed, ←Lp.tv_sg, ←Lp.te_sg]
  clear e1 e2
  have ma:=Lp.mag_le hb
  have na:=Lp.mag_nonneg a
  have mb:=Lp.mag_pos' h1
  obtain ⟨d0,d1⟩:=Lp.mag_mod a h1
  go_enter Tryz.func100,Tryz.ntmps100
  go_wp2_with (first|(go_at_call 49;refine (r1size_any _ _ (by assumption)).mono ?_;rintro e w' ⟨rfl,rfl⟩)|(go_at_call 50;refine (r1sign_any _ _ _ d0 (by omega)).mono ?_;rintro e w' ⟨rfl,rfl⟩)|(go_at_call 51;refine (ranswer_any _ _ _).mono ?_;rintro e w' ⟨rfl,rfl⟩))
  go_ret2
  exact ⟨rfl,rfl⟩
theorem num18 (n:Int) (w:World):Calls Tryz.prog 57 #[.int .i64 n] w fun e w'=>e=.returned (.agg #[.int .u8 1,.int .i64 n,.string ⟨#[]⟩,.bool false])∧Below w.heap.size w w':=by
 have HB:=κ (show Below w.heap.size w (w.alloc (.cells #[.int .u8 1,.int .i64 n,.string ⟨#[]⟩,.bool false] 31)) from ba (Below.refl _ _) _)
 go_enter Tryz.func57,Tryz.ntmps57
 go_wp2
 exact bodyPost_ret (v:=.agg #[.int .u8 1,.int .i64 n,.string ⟨#[]⟩,.bool false]) (by simp [results,Tryz.results57,go_sem]) rfl ⟨rfl,HB.out⟩
theorem reck18 (op:List UInt8) (hop:op∈Lp.arith) (a b:Int) (ha:Lp.inR a) (hb:Lp.inR b) (w:World):Calls Tryz.prog 62 #[.string ⟨op.toArray⟩,.int .i64 a,.int .i64 b] w fun e w'=>e=.returned (.tuple #[.int .i64 (Lp.reckV op a b),.int .i64 (Lp.reckE op a b)])∧w=w':=by
 have H:=κ (ι ha hb)
 clear ha hb
 simp only [Lp.arith,List.mem_cons,List.not_mem_nil,or_false] at hop
 rcases hop with rfl|rfl|rfl|rfl|rfl
 ·have HR:=κ (radd_any a b w H.out.1 H.out.2)
  go_enter Tryz.func62,Tryz.ntmps62
  go_wp2_with fail
  refine HR.out.mono ?_
  rintro e w' ⟨rfl,rfl⟩
  go_wp2
  go_ret2
  exact ⟨rfl,rfl⟩
 ·have HR:=κ (rsub_any a b w H.out.1 H.out.2)
  go_enter Tryz.func62,Tryz.ntmps62
  go_wp2_with fail
  refine HR.out.mono ?_
  rintro e w' ⟨rfl,rfl⟩
  go_wp2
  go_ret2
  exact ⟨rfl,rfl⟩
 ·have HR:=κ (rmul_any a b w H.out.1 H.out.2)
  go_enter Tryz.func62,Tryz.ntmps62
  go_wp2_with fail
  refine HR.out.mono ?_
  rintro e w' ⟨rfl,rfl⟩
  go_wp2
  go_ret2
  exact ⟨rfl,rfl⟩
 ·have HR:=κ (rdiv_any a b w H.out.1 H.out.2)
  go_enter Tryz.func62,Tryz.ntmps62
  go_wp2_with fail
  refine HR.out.mono ?_
  rintro e w' ⟨rfl,rfl⟩
  go_wp2
  go_ret2
  exact ⟨rfl,rfl⟩
 ·have HR:=κ (rmod_any a b w H.out.1 H.out.2)
  go_enter Tryz.func62,Tryz.ntmps62
  go_wp2_with fail
  refine HR.out.mono ?_
  rintro e w' ⟨rfl,rfl⟩
  go_wp2
  go_ret2
  exact ⟨rfl,rfl⟩
theorem rand_any (k i:Int) (s:ByteArray) (b:Bool) (k' i':Int) (s':ByteArray) (b':Bool) (w:World) :
 Calls Tryz.prog 58 #[.agg #[.int .u8 k,.int .i64 i,.string s,.bool b],.agg #[.int .u8 k',.int .i64 i',.string s',.bool b']] w (TruthPost (Lp.bad2 k b k' b') (Lp.andK k b k' b') w):=by
 have hb0:=ba (ba (ba (Below.refl w.heap.size w) (.cells #[.int .u8 k,.int .i64 i,.string s,.bool b] 31)) (.cells #[.int .u8 k',.int .i64 i',.string s',.bool b'] 31)) (.cells #[.int .u8 0,.int .i64 0,.string ⟨#[]⟩,.bool false] 31)
 have hx0:TwoBox w.heap.size k i s b k' i' s' b' (((w.alloc (.cells #[.int .u8 k,.int .i64 i,.string s,.bool b] 31)).alloc (.cells #[.int .u8 k',.int .i64 i',.string s',.bool b'] 31)).alloc (.cells #[.int .u8 0,.int .i64 0,.string ⟨#[]⟩,.bool false] 31)):=(TwoBox.new w k i s b k' i' s' b' 31 31).below ((Below.refl _ _).alloc (Nat.le_refl _) _)
 have hr0:(((w.alloc (.cells #[.int .u8 k,.int .i64 i,.string s,.bool b] 31)).alloc (.cells #[.int .u8 k',.int .i64 i',.string s',.bool b'] 31)).alloc (.cells #[.int .u8 0,.int .i64 0,.string ⟨#[]⟩,.bool false] 31)).heap[w.heap.size+1+1]? = some (.cells #[.int .u8 0,.int .i64 0,.string ⟨#[]⟩,.bool false] 31 (0,0)):=by
  have:=heap_alloc_new ((w.alloc (.cells #[.int .u8 k,.int .i64 i,.string s,.bool b] 31)).alloc (.cells #[.int .u8 k',.int .i64 i',.string s',.bool b'] 31)) (.cells #[.int .u8 0,.int .i64 0,.string ⟨#[]⟩,.bool false] 31)
  simpa using this
 by_cases h1:Lp.three k b<0
 ·have H:=κ (show Lp.bad2 k b k' b'=true by simp [Lp.bad2,h1])
  go_enter Tryz.func58,Tryz.ntmps58
  go_wp2_with fail
  refine (three_g _ _ _ _ _).mono ?_
  rintro e w1 ⟨rfl,hb1⟩
  have hr1:=box_below hr0 hb1
  have k1:=hb0.trans (hb1.mono (by simp;omega))
  have hc1:=β hr1
  have hf1:=fun j=>frozen_of_row w1 (w.heap.size+1+1) j _ _ hr1
  have hcE:=β (set4_same hr1 (.int .u8 0) (.int .i64 0) (.string ⟨#[]⟩) (.bool false))
  have k5:=below_set4 k1 (g:=w.heap.size+1+1) (by omega) (.int .u8 0) (.int .i64 0) (.string ⟨#[]⟩) (.bool false)
  have HCE:=κ hcE
  generalize Lp.three k b=T1 at *
  clear hb0 hb1 hx0 hr0 hcE
  go_wp2
  have hcE:=HCE.out
  exact bodyPost_ret (v:=.tuple #[.agg #[.int .u8 0,.int .i64 0,.string ⟨#[]⟩,.bool false],.int .i64 8]) (by simp [results,Tryz.results58,go_sem,hcE]) rfl (truth_bad H.out k5)
 ·have hT1:¬Lp.three k b<0:=h1
  go_enter Tryz.func58,Tryz.ntmps58
  go_wp2_with fail
  refine (three_g _ _ _ _ _).mono ?_
  rintro e w1 ⟨rfl,hb1⟩
  have hr1:=box_below hr0 hb1
  have hx1:=hx0.below hb1
  have hx1':=hx1
  have k1:=hb0.trans (hb1.mono (by simp;omega))
  clear hb0 hb1 hx0 hr0
  obtain ⟨f0,f1,f2,f3,f4,f5,f6,f7⟩:=hx1
  by_cases h2:Lp.three k' b'<0
  ·have H:=κ (show Lp.bad2 k b k' b'=true by simp [Lp.bad2,h2])
   generalize Lp.three k b=T1 at *
   go_wp2_with fail
   refine (three_g _ _ _ _ _).mono ?_
   rintro e w2 ⟨rfl,hb2⟩
   have hr2:=box_below hr1 hb2
   have k2:=k1.trans (hb2.mono k1.size)
   have hc2:=β hr2
   have hf2:=fun j=>frozen_of_row w2 (w.heap.size+1+1) j _ _ hr2
   have hcE:=β (set4_same hr2 (.int .u8 0) (.int .i64 0) (.string ⟨#[]⟩) (.bool false))
   have k5:=below_set4 k2 (g:=w.heap.size+1+1) (by omega) (.int .u8 0) (.int .i64 0) (.string ⟨#[]⟩) (.bool false)
   have HCE:=κ hcE
   generalize Lp.three k' b'=T2 at *
   clear hcE hb2 hr1 k1 hx1'
   go_wp2
   have hcE:=HCE.out
   exact bodyPost_ret (v:=.tuple #[.agg #[.int .u8 0,.int .i64 0,.string ⟨#[]⟩,.bool false],.int .i64 8]) (by simp [results,Tryz.results58,go_sem,hcE]) rfl (truth_bad H.out k5)
  ·have H:=κ (show Lp.bad2 k b k' b'=false by unfold Lp.bad2;rw [decide_eq_false (show ¬Lp.three k b<0 by omega),decide_eq_false (show ¬Lp.three k' b'<0 by omega)];rfl)
   go_wp2_with fail
   refine (three_g _ _ _ _ _).mono ?_
   rintro e w2 ⟨rfl,hb2⟩
   have hr2:=box_below hr1 hb2
   have hx2:=hx1'.below hb2
   have k2:=k1.trans (hb2.mono k1.size)
   clear hb2 hr1 k1 hx1' f0 f1 f2 f3 f4 f5 f6 f7
   have hg1:w.heap.size+1+1≠w.heap.size:=by omega
   have hg2:w.heap.size+1+1≠w.heap.size+1:=by omega
   go_wp2_with fail
   go_region_held3 (fun w'=>w'.cell? ⟨w.heap.size,0,none⟩=some (.int .u8 k)∧w'.cell? ⟨w.heap.size,1,none⟩=some (.int .i64 i)∧w'.cell? ⟨w.heap.size,2,none⟩=some (.string s)∧w'.cell? ⟨w.heap.size,3,none⟩=some (.bool b) ∧
    w'.cell? ⟨w.heap.size+1,0,none⟩=some (.int .u8 k')∧w'.cell? ⟨w.heap.size+1,1,none⟩=some (.int .i64 i')∧w'.cell? ⟨w.heap.size+1,2,none⟩=some (.string s')∧w'.cell? ⟨w.heap.size+1,3,none⟩=some (.bool b'))
    (first|exact hx5|exact hx4|exact hx3|exact hx2|exact TwoBox.set4 hx5 hg1 hg2 _ _ _ _)
    (first
     | (go_at_call 95;refine (back_g _ _).mono ?_;rintro e w5 ⟨rfl,hb5⟩;have hx5:=(fun h=>TwoBox.below h hb5) hx4;have hr5:=box_below (g:=w.heap.size+1+1) hr4 hb5;have hc5:=β hr5;have hf5:=fun j=>frozen_of_row w5 (w.heap.size+1+1) j _ _ hr5)
     | (go_at_call 94;refine (three_g _ _ _ _ _).mono ?_;rintro e w4 ⟨rfl,hb4⟩;have hx4:=(fun h=>TwoBox.below h hb4) hx3;have hr4:=box_below (g:=w.heap.size+1+1) hr3 hb4)
     | (go_at_call 94;refine (three_g _ _ _ _ _).mono ?_;rintro e w3 ⟨rfl,hb3⟩;have hx3:=(fun h=>TwoBox.below h hb3) hx2;have hr3:=box_below (g:=w.heap.size+1+1) (box_drew hr2) hb3))
   all_goals
    have k3:Below w.heap.size w w3:=k2.drew.trans (hb3.mono k2.size)
    have k4:Below w.heap.size w w4:=k3.trans (hb4.mono k3.size)
    have k5:Below w.heap.size w w5:=k4.trans (hb5.mono k4.size)
    have k6:=below_set4 k5 (g:=w.heap.size+1+1) (by omega) (.int .u8 (Lp.bkK (min (Lp.three k b) (Lp.three k' b')))) (.int .i64 0) (.string ⟨#[]⟩) (.bool (Lp.bkB (min (Lp.three k b) (Lp.three k' b'))))
    have hcE:=β (set4_same hr5 (.int .u8 (Lp.bkK (min (Lp.three k b) (Lp.three k' b')))) (.int .i64 0) (.string ⟨#[]⟩) (.bool (Lp.bkB (min (Lp.three k b) (Lp.three k' b')))))
    have HCE:=κ hcE
    clear hcE hc5 hf5
    go_wp2
    have hcE:=HCE.out
    exact bodyPost_ret (v:=.tuple #[.agg #[.int .u8 (Lp.bkK (min (Lp.three k b) (Lp.three k' b'))),.int .i64 0,.string ⟨#[]⟩,.bool (Lp.bkB (min (Lp.three k b) (Lp.three k' b')))],.int .i64 0]) (by simp [results,Tryz.results58,go_sem,hcE]) rfl (truth_good H.out rfl k6)
theorem ror_any (k i:Int) (s:ByteArray) (b:Bool) (k' i':Int) (s':ByteArray) (b':Bool) (w:World) :
 Calls Tryz.prog 59 #[.agg #[.int .u8 k,.int .i64 i,.string s,.bool b],.agg #[.int .u8 k',.int .i64 i',.string s',.bool b']] w (TruthPost (Lp.bad2 k b k' b') (Lp.orK k b k' b') w):=by
 have hb0:=ba (ba (ba (Below.refl w.heap.size w) (.cells #[.int .u8 k,.int .i64 i,.string s,.bool b] 31)) (.cells #[.int .u8 k',.int .i64 i',.string s',.bool b'] 31)) (.cells #[.int .u8 0,.int .i64 0,.string ⟨#[]⟩,.bool false] 31)
 have hx0:TwoBox w.heap.size k i s b k' i' s' b' (((w.alloc (.cells #[.int .u8 k,.int .i64 i,.string s,.bool b] 31)).alloc (.cells #[.int .u8 k',.int .i64 i',.string s',.bool b'] 31)).alloc (.cells #[.int .u8 0,.int .i64 0,.string ⟨#[]⟩,.bool false] 31)):=(TwoBox.new w k i s b k' i' s' b' 31 31).below ((Below.refl _ _).alloc (Nat.le_refl _) _)
 have hr0:(((w.alloc (.cells #[.int .u8 k,.int .i64 i,.string s,.bool b] 31)).alloc (.cells #[.int .u8 k',.int .i64 i',.string s',.bool b'] 31)).alloc (.cells #[.int .u8 0,.int .i64 0,.string ⟨#[]⟩,.bool false] 31)).heap[w.heap.size+1+1]? = some (.cells #[.int .u8 0,.int .i64 0,.string ⟨#[]⟩,.bool false] 31 (0,0)):=by
  have:=heap_alloc_new ((w.alloc (.cells #[.int .u8 k,.int .i64 i,.string s,.bool b] 31)).alloc (.cells #[.int .u8 k',.int .i64 i',.string s',.bool b'] 31)) (.cells #[.int .u8 0,.int .i64 0,.string ⟨#[]⟩,.bool false] 31)
  simpa using this
 by_cases h1:Lp.three k b<0
 ·have H:=κ (show Lp.bad2 k b k' b'=true by simp [Lp.bad2,h1])
  go_enter Tryz.func59,Tryz.ntmps59
  go_wp2_with fail
  refine (three_g _ _ _ _ _).mono ?_
  rintro e w1 ⟨rfl,hb1⟩
  have hr1:=box_below hr0 hb1
  have k1:=hb0.trans (hb1.mono (by simp;omega))
  have hc1:=β hr1
  have hf1:=fun j=>frozen_of_row w1 (w.heap.size+1+1) j _ _ hr1
  have hcE:=β (set4_same hr1 (.int .u8 0) (.int .i64 0) (.string ⟨#[]⟩) (.bool false))
  have k5:=below_set4 k1 (g:=w.heap.size+1+1) (by omega) (.int .u8 0) (.int .i64 0) (.string ⟨#[]⟩) (.bool false)
  have HCE:=κ hcE
  generalize Lp.three k b=T1 at *
  clear hb0 hb1 hx0 hr0 hcE
  go_wp2
  have hcE:=HCE.out
  exact bodyPost_ret (v:=.tuple #[.agg #[.int .u8 0,.int .i64 0,.string ⟨#[]⟩,.bool false],.int .i64 8]) (by simp [results,Tryz.results59,go_sem,hcE]) rfl (truth_bad H.out k5)
 ·have hT1:¬Lp.three k b<0:=h1
  go_enter Tryz.func59,Tryz.ntmps59
  go_wp2_with fail
  refine (three_g _ _ _ _ _).mono ?_
  rintro e w1 ⟨rfl,hb1⟩
  have hr1:=box_below hr0 hb1
  have hx1:=hx0.below hb1
  have hx1':=hx1
  have k1:=hb0.trans (hb1.mono (by simp;omega))
  clear hb0 hb1 hx0 hr0
  obtain ⟨f0,f1,f2,f3,f4,f5,f6,f7⟩:=hx1
  by_cases h2:Lp.three k' b'<0
  ·have H:=κ (show Lp.bad2 k b k' b'=true by simp [Lp.bad2,h2])
   generalize Lp.three k b=T1 at *
   go_wp2_with fail
   refine (three_g _ _ _ _ _).mono ?_
   rintro e w2 ⟨rfl,hb2⟩
   have hr2:=box_below hr1 hb2
   have k2:=k1.trans (hb2.mono k1.size)
   have hc2:=β hr2
   have hf2:=fun j=>frozen_of_row w2 (w.heap.size+1+1) j _ _ hr2
   have hcE:=β (set4_same hr2 (.int .u8 0) (.int .i64 0) (.string ⟨#[]⟩) (.bool false))
   have k5:=below_set4 k2 (g:=w.heap.size+1+1) (by omega) (.int .u8 0) (.int .i64 0) (.string ⟨#[]⟩) (.bool false)
   have HCE:=κ hcE
   generalize Lp.three k' b'=T2 at *
   clear hcE hb2 hr1 k1 hx1'
   go_wp2
   have hcE:=HCE.out
   exact bodyPost_ret (v:=.tuple #[.agg #[.int .u8 0,.int .i64 0,.string ⟨#[]⟩,.bool false],.int .i64 8]) (by simp [results,Tryz.results59,go_sem,hcE]) rfl (truth_bad H.out k5)
  ·have H:=κ (show Lp.bad2 k b k' b'=false by unfold Lp.bad2;rw [decide_eq_false (show ¬Lp.three k b<0 by omega),decide_eq_false (show ¬Lp.three k' b'<0 by omega)];rfl)
   go_wp2_with fail
   refine (three_g _ _ _ _ _).mono ?_
   rintro e w2 ⟨rfl,hb2⟩
   have hr2:=box_below hr1 hb2
   have hx2:=hx1'.below hb2
   have k2:=k1.trans (hb2.mono k1.size)
   clear hb2 hr1 k1 hx1' f0 f1 f2 f3 f4 f5 f6 f7
   have hg1:w.heap.size+1+1≠w.heap.size:=by omega
   have hg2:w.heap.size+1+1≠w.heap.size+1:=by omega
   go_wp2_with fail
   go_region_held3 (fun w'=>w'.cell? ⟨w.heap.size,0,none⟩=some (.int .u8 k)∧w'.cell? ⟨w.heap.size,1,none⟩=some (.int .i64 i)∧w'.cell? ⟨w.heap.size,2,none⟩=some (.string s)∧w'.cell? ⟨w.heap.size,3,none⟩=some (.bool b) ∧
    w'.cell? ⟨w.heap.size+1,0,none⟩=some (.int .u8 k')∧w'.cell? ⟨w.heap.size+1,1,none⟩=some (.int .i64 i')∧w'.cell? ⟨w.heap.size+1,2,none⟩=some (.string s')∧w'.cell? ⟨w.heap.size+1,3,none⟩=some (.bool b'))
    (first|exact hx5|exact hx4|exact hx3|exact hx2|exact TwoBox.set4 hx5 hg1 hg2 _ _ _ _)
    (first
     | (go_at_call 95;refine (back_g _ _).mono ?_;rintro e w5 ⟨rfl,hb5⟩;have hx5:=(fun h=>TwoBox.below h hb5) hx4;have hr5:=box_below (g:=w.heap.size+1+1) hr4 hb5;have hc5:=β hr5;have hf5:=fun j=>frozen_of_row w5 (w.heap.size+1+1) j _ _ hr5)
     | (go_at_call 94;refine (three_g _ _ _ _ _).mono ?_;rintro e w4 ⟨rfl,hb4⟩;have hx4:=(fun h=>TwoBox.below h hb4) hx3;have hr4:=box_below (g:=w.heap.size+1+1) hr3 hb4)
     | (go_at_call 94;refine (three_g _ _ _ _ _).mono ?_;rintro e w3 ⟨rfl,hb3⟩;have hx3:=(fun h=>TwoBox.below h hb3) hx2;have hr3:=box_below (g:=w.heap.size+1+1) (box_drew hr2) hb3))
   all_goals
    have k3:Below w.heap.size w w3:=k2.drew.trans (hb3.mono k2.size)
    have k4:Below w.heap.size w w4:=k3.trans (hb4.mono k3.size)
    have k5:Below w.heap.size w w5:=k4.trans (hb5.mono k4.size)
    have k6:=below_set4 k5 (g:=w.heap.size+1+1) (by omega) (.int .u8 (Lp.bkK (max (Lp.three k b) (Lp.three k' b')))) (.int .i64 0) (.string ⟨#[]⟩) (.bool (Lp.bkB (max (Lp.three k b) (Lp.three k' b'))))
    have hcE:=β (set4_same hr5 (.int .u8 (Lp.bkK (max (Lp.three k b) (Lp.three k' b')))) (.int .i64 0) (.string ⟨#[]⟩) (.bool (Lp.bkB (max (Lp.three k b) (Lp.three k' b')))))
    have HCE:=κ hcE
    clear hcE hc5 hf5
    go_wp2
    have hcE:=HCE.out
    exact bodyPost_ret (v:=.tuple #[.agg #[.int .u8 (Lp.bkK (max (Lp.three k b) (Lp.three k' b'))),.int .i64 0,.string ⟨#[]⟩,.bool (Lp.bkB (max (Lp.three k b) (Lp.three k' b')))],.int .i64 0]) (by simp [results,Tryz.results59,go_sem,hcE]) rfl (truth_good H.out rfl k6)
end Go.Proofs.YtkfjmgmjbljnbaaGreatDoor
namespace Go.Proofs.YtkfjmgmjbljnbaaGreatDoor.Lp
open Go.Proofs.YtkfjmgmjbljnbaaGreatDoor
theorem three_tw {v:V} (h:Gd v):three v.k v.b=tw v.k v.b:=by
 unfold three tw
 rcases h.kinds with e|e|e|e<;>rw [e]<;>simp
theorem bad2_of {a b:V} (ha:Gd a) (hb:Gd b):bad2 a.k a.b b.k b.b=badT a b:=by
 unfold bad2 badT
 rw [three_tw ha,three_tw hb]
theorem andK_of {a b:V} (ha:Gd a) (hb:Gd b):andK a.k a.b b.k b.b=joinN a b false:=by
 unfold andK joinN
 rw [three_tw ha,three_tw hb]
 rfl
theorem orK_of {a b:V} (ha:Gd a) (hb:Gd b):orK a.k a.b b.k b.b=joinN a b true:=by
 unfold orK joinN
 rw [three_tw ha,three_tw hb]
 rfl
def refS (op:List UInt8) (less same:Bool):Bool :=
 if op=[61] then same else if op=[60,62] then !same else if op=[60] then less else if op=[60,61] then less||same else if op=[62] then !less && !same else !less
theorem refS_ord (op:List UInt8) (a b:V):refS op (vless a b) (vsame a b)=standsX op (vord a b):=by
 unfold refS standsX
 rw [vless_ord,vsame_ord]
 generalize vord a b=c
 repeat' split
 all_goals first|rfl|(rw [Bool.eq_iff_iff];simp<;>omega)|(rw [Bool.eq_iff_iff];simp)
theorem cmp_ref {op:List UInt8} {k k':Int} {a b:V} (ha:Of k a) (hb:Of k' b) (hf:(fitK k k'||fitK k' k)=true) (h1:a.k≠0) (h2:b.k≠0):cmpX op a b=(truV (refS op (vless a b) (vsame a b)),0):=by
 have hE:=cmpE_of ha hb hf
 have hka:isK a.k=true:=by rcases ha.1.kinds with e|e|e|e<;>first|exact absurd e h1|(rw [e];rfl)
 have hkb:isK b.k=true:=by rcases hb.1.kinds with e|e|e|e<;>first|exact absurd e h2|(rw [e];rfl)
 have heq:a.k=b.k:=by
  unfold cmpE at hE
  rw [hka,hkb] at hE
  by_cases h:a.k=b.k
  ·exact h
  ·simp [h] at hE
 have hB:cmpB a b=true:=by unfold cmpB;rw [hka,hkb];simp [heq]
 have hV:cmpV a b=vord a b:=by unfold cmpV;rw [hka,hkb];simp [heq]
 unfold cmpX
 rw [if_pos ⟨hE,hB⟩,hV,refS_ord]
theorem cmp_null {op:List UInt8} {a b:V} (h:a.k=0∨b.k=0):cmpX op a b=(nullV,0):=by
 have hB:cmpB a b=false:=by
  unfold cmpB
  rcases h with h|h
  ·rw [isK_not h];rfl
  ·rw [isK_not h];simp
 have hE:cmpE a b=0:=by
  unfold cmpE
  rcases h with h|h
  ·rw [isK_not h];rfl
  ·rw [isK_not h];simp
 unfold cmpX
 rw [hB,hE,if_neg (fun h=>by cases h.2)]
def stepM (op:List UInt8) (best v:V):V:=if (op=uMin∧vless v best=true)∨(op=uMax∧vless best v=true) then v else best
def bestL (op:List UInt8):List V→V
 | []=>nullV
 | a::r=>(a::r).foldl (stepM op) a
theorem stepM_self (op:List UInt8) (v:V):stepM op v v=v:=by unfold stepM;split<;>rfl
theorem bestL_snoc (op:List UInt8) (v:V):∀ l:List V,bestL op (l++[v])=if l=[] then v else stepM op (bestL op l) v
 | []=>by show List.foldl (stepM op) v [v]=_;simp [stepM_self]
 | a::r=>by
   show List.foldl (stepM op) a (a::(r++[v]))=_
   rw [←List.cons_append,List.foldl_append,if_neg (by simp)]
   rfl
def RelA (op:List UInt8) (st:Int×V) (l:List V) (sum:Int):Prop :=
 st.1=l.length∧inR sum∧(op≠uSum→sum=0)∧(op=uSum→st.2=if l=[] then nullV else numV sum)∧(op=uSum→l=[]→sum=0)∧(op=uMin∨op=uMax→st.2=bestL op l)
theorem RelA.nil (op:List UInt8):RelA op (0,nullV) [] 0:=⟨rfl,by simp [inR],fun _=>rfl,fun _=>rfl,fun _ _=>rfl,fun _=>rfl⟩
theorem gd_one {v:V} (h:Gd v) (hk:v.k=1):v=numV v.i:=by
 rcases h.2 with g|g|g|g
 ·rw [hk] at g;exact absurd g.1 (by decide)
 ·obtain ⟨k,i,s,b⟩:=v
  obtain ⟨h1,h2,h3⟩:=g
  simp only at h1 h2 h3
  subst h1 h2 h3
  rfl
 ·rw [hk] at g;exact absurd g.1 (by decide)
 ·rw [hk] at g;exact absurd g.1 (by decide)
def sumN (op:List UInt8) (sum i:Int):Int:=if op=uSum then val (sum+i) else sum
def sumF (op:List UInt8) (sum i:Int):Int:=if op=uSum then err (sum+i) else 0
theorem uMM_ne {op:List UInt8} (h:op=uMin∨op=uMax):op≠uSum:=by rcases h with rfl|rfl<;>decide
theorem relA_step {op:List UInt8} {st:Int×V} {l:List V} {sum k:Int} {v:V} (h:RelA op st l sum) (hv:Of k v) (hv0:v.k≠0) (hk:op=uSum→fitK k 1=true) :
 (stepA op st v).2=sumF op sum v.i∧((stepA op st v).2=0→RelA op (stepA op st v).1 (l++[v]) (sumN op sum v.i)):=by
 obtain ⟨h1,h2,h3,h4,h5,h6⟩:=h
 have hne:l++[v]≠[]:=by simp
 have hlen:((l++[v]).length:Int)=l.length+1:=by simp
 unfold stepA
 rw [if_neg hv0]
 by_cases hs:op=uSum
 ·have hv1:v.k=1:=by
   rcases (hv.fit (hk hs)).2 with g|g
   ·exact absurd g hv0
   ·exact g
  have hvn:=gd_one hv.1 hv1
  have hmm:¬(op=uMin∨op=uMax):=fun g=>uMM_ne g hs
  by_cases hl:l=[]
  ·have hz:=h5 hs hl
   have hst:st.1=0:=by rw [h1,hl];rfl
   rw [if_pos (.inl hst)]
   have hin:inR (sum+v.i):=by rw [hz,Int.zero_add];exact hv.1.1
   have hval:val (sum+v.i)=v.i:=by rw [hz,Int.zero_add];exact val_in hv.1.1
   have herr:sumF op sum v.i=0:=by unfold sumF;rw [if_pos hs];exact err_in hin
   have hsn:sumN op sum v.i=v.i:=by unfold sumN;rw [if_pos hs];exact hval
   refine ⟨herr.symm,fun _=>⟨by show st.1+1=_;rw [hlen,h1],by rw [hsn];exact hv.1.1,fun g=>absurd hs g,fun _=>by rw [if_neg hne,hsn];exact hvn,fun _ g=>absurd g hne,fun g=>absurd g hmm⟩⟩
  ·have hst:st.1≠0:=by
    rw [h1]
    have:=List.length_pos_iff.2 hl
    omega
   have hb:st.2=numV sum:=by rw [h4 hs,if_neg hl]
   rw [if_neg (by rintro (g|g|g);exact hst g;exact hmm (.inl g.1);exact hmm (.inr g.1)),if_pos hs]
   have htw:twoX [43] st.2 v=numE (val (sum+v.i)) (err (sum+v.i)):=by
    rw [hb]
    unfold twoX
    rw [if_neg (by rintro (g|g);exact absurd (show (1:Int)=0 from g) (by decide);exact hv0 g)]
    rfl
   have hF:sumF op sum v.i=err (sum+v.i):=if_pos hs
   have hN:sumN op sum v.i=val (sum+v.i):=if_pos hs
   rw [htw,hF,hN]
   unfold numE
   by_cases he:err (sum+v.i)=0
   ·rw [if_pos he]
    exact ⟨he.symm,fun _=>⟨by show st.1+1=_;rw [hlen,h1],val_inR _,fun g=>absurd hs g,fun _=>by rw [if_neg hne],fun _ g=>absurd g hne,fun g=>absurd g hmm⟩⟩
   ·rw [if_neg he]
    exact ⟨rfl,fun g=>absurd g he⟩
 ·have hF:sumF op sum v.i=0:=if_neg hs
  have hN:sumN op sum v.i=sum:=if_neg hs
  rw [hF,hN]
  have key:∀ st2:V,(op=uMin∨op=uMax→st2=bestL op (l++[v]))→RelA op (st.1+1,st2) (l++[v]) sum:=fun st2 g =>
   ⟨by show st.1+1=_;rw [hlen,h1],h2,fun _=>h3 hs,fun g=>absurd g hs,fun g=>absurd g hs,g⟩
  by_cases hl:l=[]
  ·have hst:st.1=0:=by rw [h1,hl];rfl
   rw [if_pos (.inl hst)]
   exact ⟨rfl,fun _=>key v (fun _=>by rw [bestL_snoc,if_pos hl])⟩
  ·have hst:st.1≠0:=by
    rw [h1]
    have:=List.length_pos_iff.2 hl
    omega
   by_cases hmm:op=uMin∨op=uMax
   ·have hb:=h6 hmm
    by_cases hc:(op=uMin∧vless v st.2=true)∨(op=uMax∧vless st.2 v=true)
    ·rw [if_pos (.inr hc)]
     refine ⟨rfl,fun _=>key v (fun _ => ?_)⟩
     rw [bestL_snoc,if_neg hl, ←hb]
     unfold stepM
     rw [if_pos hc]
    ·rw [if_neg (by rintro (g|g);exact hst g;exact hc g),if_neg hs]
     refine ⟨rfl,fun _=>key st.2 (fun _ => ?_)⟩
     rw [bestL_snoc,if_neg hl, ←hb]
     unfold stepM
     rw [if_neg hc]
   ·rw [if_neg (by rintro (g|g|g);exact hst g;exact hmm (.inl g.1);exact hmm (.inr g.1)),if_neg hs]
    exact ⟨rfl,fun _=>key st.2 (fun g=>absurd g hmm)⟩
theorem relA_end {op:List UInt8} {st:Int×V} {l:List V} {sum:Int} (h:RelA op st l sum) (hop:op∈aggOps) :
 (if op=uCount then numV st.1 else st.2)=if op=uCount then numV l.length else if l=[] then nullV else if op=uSum then numV sum else bestL op l:=by
 obtain ⟨h1,h2,h3,h4,h5,h6⟩:=h
 by_cases hc:op=uCount
 ·rw [if_pos hc,if_pos hc,h1]
 ·rw [if_neg hc,if_neg hc]
  by_cases hs:op=uSum
  ·rw [h4 hs,if_pos hs]
  ·have hmm:op=uMin∨op=uMax:=by
    simp only [aggOps,List.mem_cons,List.not_mem_nil,or_false] at hop
    rcases hop with g|g|g|g
    ·exact absurd g hc
    ·exact absurd g hs
    ·exact .inl g
    ·exact .inr g
   rw [h6 hmm,if_neg hs]
   split
   ·rename_i hl;rw [hl];rfl
   ·rfl
end Go.Proofs.YtkfjmgmjbljnbaaGreatDoor.Lp
namespace Go.Proofs.YtkfjmgmjbljnbaaGreatDoor
open Go.RowKit
def valsR (sc:List Lp.Tb) (row:List Lp.V) (rows:List (List Lp.V)) (xs:List Lp.X):List Lp.V:=xs.map fun y=>(Lp.evalX sc y row rows).1
def firstR (sc:List Lp.Tb) (row:List Lp.V) (rows:List (List Lp.V)):List Lp.X→Int
 | []=>0
 | x::r=>if (Lp.evalX sc x row rows).2=0 then firstR sc row rows r else (Lp.evalX sc x row rows).2
theorem firstR_snoc (sc:List Lp.Tb) (row:List Lp.V) (rows:List (List Lp.V)) (x:Lp.X):∀ l,firstR sc row rows l=0→firstR sc row rows (l++[x])=(Lp.evalX sc x row rows).2
 | [],_=>by
   show (if (Lp.evalX sc x row rows).2=0 then (0:Int) else _)=_
   split
   ·rename_i h;exact h.symm
   ·rfl
 | y::l,h=>by
   have h0:(Lp.evalX sc y row rows).2=0:=by
    unfold firstR at h
    split at h
    ·assumption
    ·rename_i h1;exact absurd h h1
   have h1:firstR sc row rows l=0:=by
    unfold firstR at h
    rwa [if_pos h0] at h
   show (if (Lp.evalX sc y row rows).2=0 then firstR sc row rows (l++[x]) else _)=_
   rw [if_pos h0,firstR_snoc sc row rows x l h1]
theorem firstR_pre (sc:List Lp.Tb) (row:List Lp.V) (rows:List (List Lp.V)):∀ l r,firstR sc row rows l≠0→firstR sc row rows (l++r)=firstR sc row rows l
 | [],_,h=>absurd rfl h
 | y::l,r,h=>by
   show (if (Lp.evalX sc y row rows).2=0 then firstR sc row rows (l++r) else _)=(if (Lp.evalX sc y row rows).2=0 then firstR sc row rows l else _)
   unfold firstR at h
   split
   ·rename_i h0
    rw [if_pos h0] at h
    exact firstR_pre sc row rows l r h
   ·rfl
theorem firstR_next (sc:List Lp.Tb) (row:List Lp.V) (rows:List (List Lp.V)) {xs:List Lp.X} {i:Nat} (h:i<xs.length) (h0:firstR sc row rows (xs.take i)=0):firstR sc row rows (xs.take (i+1))=(Lp.evalX sc xs[i] row rows).2:=by
 rw [List.take_succ_eq_append_getElem h,firstR_snoc _ _ _ _ _ h0]
theorem firstR_stop (sc:List Lp.Tb) (row:List Lp.V) (rows:List (List Lp.V)) {xs:List Lp.X} {i:Nat} (h:i<xs.length) (h0:firstR sc row rows (xs.take i)=0) (h1:(Lp.evalX sc xs[i] row rows).2≠0):firstR sc row rows xs=(Lp.evalX sc xs[i] row rows).2:=by
 have h2:=firstR_next sc row rows h h0
 have h3:=firstR_pre sc row rows (xs.take (i+1)) (xs.drop (i+1)) (by rw [h2];exact h1)
 rw [List.take_append_drop] at h3
 rw [h3,h2]
theorem valsR_snoc (sc:List Lp.Tb) (row:List Lp.V) (rows:List (List Lp.V)) {xs:List Lp.X} {i:Nat} (h:i<xs.length):Lp.vv (valsR sc row rows (xs.take i))++Lp.vv [(Lp.evalX sc xs[i] row rows).1]=Lp.vv (valsR sc row rows (xs.take (i+1))):=by
 rw [List.take_succ_eq_append_getElem h, ←Lp.vv_append]
 simp only [valsR,List.map_append,List.map_cons,List.map_nil]
theorem valsR_len (sc:List Lp.Tb) (row:List Lp.V) (rows:List (List Lp.V)) (xs:List Lp.X):(valsR sc row rows xs).length=xs.length:=by simp [valsR]
def endV:Lp.X→List Lp.V→Lp.V×Int
 | .un op _,vs=>Lp.unX op (vs.headD Lp.nullV)
 | .bin op _ _,vs=>Lp.binX op (vs.headD Lp.nullV) (vs.tail.headD Lp.nullV)
 | .isn n _,vs=>Lp.isX n (vs.headD Lp.nullV)
 | _,_=>(Lp.nullV,0)
theorem eval_nod (sc:List Lp.Tb) (row:List Lp.V) (rows:List (List Lp.V)) (x:Lp.X) (hk:kids x≠[]) (h6:nodK x≠6):Lp.evalX sc x row rows=if firstR sc row rows (kids x)=0 then endV x (valsR sc row rows (kids x)) else (Lp.nullV,firstR sc row rows (kids x)):=by
 have one:∀ (y:Lp.X) (f:Lp.V→Lp.V×Int),Lp.thenV (Lp.evalX sc y row rows) f=if firstR sc row rows [y]=0 then f (Lp.evalX sc y row rows).1 else (Lp.nullV,firstR sc row rows [y]):=by
  intro y f
  have e:firstR sc row rows [y]=(Lp.evalX sc y row rows).2:=by
   show (if (Lp.evalX sc y row rows).2=0 then (0:Int) else _)=_
   split
   ·rename_i h;exact h.symm
   ·rfl
  rw [e];rfl
 cases x with
 | lit=>exact absurd rfl hk
 | col=>exact absurd rfl hk
 | cnt=>exact absurd rfl hk
 | agg=>exact absurd rfl h6
 | un op y=>exact one y _
 | isn n y=>exact one y _
 | bin op a b =>
   show (if (Lp.evalX sc a row rows).2=0 then (if (Lp.evalX sc b row rows).2=0 then Lp.binX op (Lp.evalX sc a row rows).1 (Lp.evalX sc b row rows).1 else (Lp.nullV,(Lp.evalX sc b row rows).2)) else (Lp.nullV,(Lp.evalX sc a row rows).2))=if (if (Lp.evalX sc a row rows).2=0 then (if (Lp.evalX sc b row rows).2=0 then (0:Int) else (Lp.evalX sc b row rows).2) else (Lp.evalX sc a row rows).2)=0 then Lp.binX op (Lp.evalX sc a row rows).1 (Lp.evalX sc b row rows).1 else (Lp.nullV,if (Lp.evalX sc a row rows).2=0 then (if (Lp.evalX sc b row rows).2=0 then (0:Int) else (Lp.evalX sc b row rows).2) else (Lp.evalX sc a row rows).2)
   by_cases h1:(Lp.evalX sc a row rows).2=0
   ·by_cases h2:(Lp.evalX sc b row rows).2=0
    ·simp [h1,h2]
    ·simp [h1,h2]
   ·simp [h1]
theorem truth_form {bad:Bool} {n:Int} {w w':World} {e:Ending} (h:TruthPost bad n w e w'):∃ k b E,Lp.triV bad n=(⟨k,0,⟨#[]⟩,b⟩,E)∧e=.returned (.tuple #[.agg #[.int .u8 k,.int .i64 0,.string ⟨#[]⟩,.bool b],.int .i64 E])∧Below w.heap.size w w':=by
 obtain ⟨rfl,hb⟩:=h
 unfold Lp.triV
 cases bad
 ·exact ⟨_,_,_,rfl,rfl,hb⟩
 ·exact ⟨_,_,_,rfl,rfl,hb⟩
def ValOk (A:Option Addr) (c:Nat) (l:List TabA) (r:RowV) (wv:Value) (rows:List (List Lp.V)) (P:World→Prop) (x:Lp.X):Prop:=∀ (S:Nat→Prop) (w:World) (rr:RC),ScA w A l→RX S w x rr→RdsV w r.1 r.2.2→P w→Calls Tryz.prog 25 #[.slice A l.length c,rr.val,r.val,wv] w (EvPost (Lp.evalX (scOf l) x r.2.2 rows) w)
theorem val_lit (A:Option Addr) (n c:Nat) (rA:Option Addr) (rn rc:Nat) (wv:Value) (k i:Int) (s:List UInt8) (b:Bool) (w:World) :
 Calls Tryz.prog 25 #[.slice A n c,(rcL k i s b).val,.slice rA rn rc,wv] w (EvPost (⟨k,i,⟨s.toArray⟩,b⟩,0) w):=by
 simp only [RC.val,rcL]
 generalize (⟨s.toArray⟩:ByteArray)=sb at *
 have hb0:Below w.heap.size w (((w.alloc (.cells #[.int .u8 1,.int .u8 k,.int .i64 i,.string sb,.bool b,.string ⟨#[]⟩,.string ⟨#[]⟩,.slice none 0 0] 35)).alloc (.cells #[.int .u8 0,.int .i64 0,.string ⟨#[]⟩,.bool false] 31)).alloc (.cells #[.int .u8 0,.int .i64 0,.string ⟨#[]⟩,.bool false] 31)):=ba (ba (ba (Below.refl _ _) _) _) _
 have hzx:=box_alloc (box_alloc (heap_alloc_new w (.cells #[.int .u8 1,.int .u8 k,.int .i64 i,.string sb,.bool b,.string ⟨#[]⟩,.string ⟨#[]⟩,.slice none 0 0] 35)) (.cells #[.int .u8 0,.int .i64 0,.string ⟨#[]⟩,.bool false] 31)) (.cells #[.int .u8 0,.int .i64 0,.string ⟨#[]⟩,.bool false] 31)
 have hz8:=box_alloc (heap_new2 w (.cells #[.int .u8 1,.int .u8 k,.int .i64 i,.string sb,.bool b,.string ⟨#[]⟩,.string ⟨#[]⟩,.slice none 0 0] 35) (.cells #[.int .u8 0,.int .i64 0,.string ⟨#[]⟩,.bool false] 31)) (.cells #[.int .u8 0,.int .i64 0,.string ⟨#[]⟩,.bool false] 31)
 have hcx:=β hzx
 have HB:=κ (ι hb0 hz8)
 have HCX:=κ hzx
 clear hb0 hzx hz8
 go_enter Tryz.func25,Tryz.ntmps25
 go_wp2_with fail
 generalize (((w.alloc (.cells #[.int .u8 1,.int .u8 k,.int .i64 i,.string sb,.bool b,.string ⟨#[]⟩,.string ⟨#[]⟩,.slice none 0 0] 35)).alloc (.cells #[.int .u8 0,.int .i64 0,.string ⟨#[]⟩,.bool false] 31)).alloc (.cells #[.int .u8 0,.int .i64 0,.string ⟨#[]⟩,.bool false] 31))=W at *
 go_loopw [35] (fun s35 wr=>s35=.int .i64 0∧W=wr) (fun _ _=>0)
 case atStart=>exact ⟨rfl,rfl⟩
 case round =>
  obtain ⟨rfl,rfl⟩:=hrel
  have hr9:=HB.out.2
  have hk9:=HB.out.1
  have hc9:=β hr9
  have hf9:=fun j=>frozen_of_row _ _ j _ _ hr9
  have HCE:=κ (β (set4_same hr9 (.int .u8 k) (.int .i64 i) (.string sb) (.bool b)))
  have K5:=κ (below_set4 hk9 (g:=w.heap.size+1) (Nat.le_succ _) (.int .u8 k) (.int .i64 i) (.string sb) (.bool b))
  clear hr9 hk9
  go_wp2
  have hcE:=HCE.out
  exact bodyPost_ret (v:=.tuple #[.agg #[.int .u8 k,.int .i64 i,.string sb,.bool b],.int .i64 0]) (by simp [results,Tryz.results25,go_sem,hcE]) rfl (EvPost.mk rfl K5.out)
theorem val_col (gr:Bool) (A:Option Addr) (c:Nat) (l:List TabA) (rA:Option Addr) (rc:Nat) (wv:Value) (rows:List (List Lp.V)) (row:List Lp.V) (t s:List UInt8) (w:World) (hA:ScA w A l) (hn:l.length≤100) (hw:Lp.wide (scOf l)≤10000) (hrd:RdsV w rA row) (hlen:row.length=Lp.wide (scOf l)) (hk:(Lp.kindX (scOf l) (.col t s) gr).2=0) :
 Calls Tryz.prog 25 #[.slice A l.length c,(rcC t s).val,.slice rA row.length rc,wv] w (EvPost (Lp.evalX (scOf l) (.col t s) row rows) w):=by
 obtain ⟨p,hp⟩:∃ p,Lp.findX (scOf l) t s=some p:=by
  unfold Lp.kindX at hk
  split at hk
  ·exact absurd hk (by decide)
  ·rename_i p hp;exact ⟨p,hp⟩
 have hat:Lp.atX (scOf l) t s=(p.1:Int):=by simp [Lp.atX,hp]
 have hlt:p.1<row.length:=by
  have h1:=(List.getElem?_eq_some_iff.1 (Lp.findX_at hp)).1
  have h2:(Lp.flatK (scOf l)).length=Lp.wide (scOf l):=by
   unfold Lp.wide Lp.flatK
   rw [List.length_flatMap]
   simp
  omega
 have hev:Lp.evalX (scOf l) (.col t s) row rows=(row[p.1],0):=by simp [Lp.evalX,hp,List.getElem?_eq_getElem hlt]
 rw [hev]
 obtain ⟨⟨uk,ui,us,ub⟩,hu⟩:∃ u,row[p.1]=u:=⟨_,rfl⟩
 rw [hu]
 have HU:=κ hu
 have HLT:=κ hlt
 clear hu
 simp only [RC.val,rcC]
 have hb0:Below w.heap.size w (((w.alloc (.cells #[.int .u8 2,.int .u8 0,.int .i64 0,.string ⟨#[]⟩,.bool false,.string ⟨t.toArray⟩,.string ⟨s.toArray⟩,.slice none 0 0] 35)).alloc (.cells #[.int .u8 0,.int .i64 0,.string ⟨#[]⟩,.bool false] 31)).alloc (.cells #[.int .u8 0,.int .i64 0,.string ⟨#[]⟩,.bool false] 31)):=ba (ba (ba (Below.refl _ _) _) _) _
 have hzx:=box_alloc (box_alloc (heap_alloc_new w (.cells #[.int .u8 2,.int .u8 0,.int .i64 0,.string ⟨#[]⟩,.bool false,.string ⟨t.toArray⟩,.string ⟨s.toArray⟩,.slice none 0 0] 35)) (.cells #[.int .u8 0,.int .i64 0,.string ⟨#[]⟩,.bool false] 31)) (.cells #[.int .u8 0,.int .i64 0,.string ⟨#[]⟩,.bool false] 31)
 have hz8:=box_alloc (heap_new2 w (.cells #[.int .u8 2,.int .u8 0,.int .i64 0,.string ⟨#[]⟩,.bool false,.string ⟨t.toArray⟩,.string ⟨s.toArray⟩,.slice none 0 0] 35) (.cells #[.int .u8 0,.int .i64 0,.string ⟨#[]⟩,.bool false] 31)) (.cells #[.int .u8 0,.int .i64 0,.string ⟨#[]⟩,.bool false] 31)
 have hcx:=β hzx
 have HF:=κ (hat▸rfind_any A c l t s _ (hA.below hb0) hn hw)
 have HB:=κ (ι hb0 (ι hz8 (Rds.below hrd hb0)))
 have hnI:(row.length:Int)≤10000:=by omega
 have hpI:(p.1:Int)<(row.length:Int):=by omega
 have h0I:((row.length:Int)==0)=false:=beq_eq_false_iff_ne.2 (by omega)
 clear hb0 hzx hz8 hA hn hw hrd hlen hk hev hat
 go_enter Tryz.func25,Tryz.ntmps25
 go_wp2_with fail
 generalize (((w.alloc (.cells #[.int .u8 2,.int .u8 0,.int .i64 0,.string ⟨#[]⟩,.bool false,.string ⟨t.toArray⟩,.string ⟨s.toArray⟩,.slice none 0 0] 35)).alloc (.cells #[.int .u8 0,.int .i64 0,.string ⟨#[]⟩,.bool false] 31)).alloc (.cells #[.int .u8 0,.int .i64 0,.string ⟨#[]⟩,.bool false] 31))=W at *
 go_loopw [35] (fun s35 wr=>s35=.int .i64 0∧W=wr) (fun _ _=>0)
 case atStart=>exact ⟨rfl,rfl⟩
 case round =>
  obtain ⟨rfl,rfl⟩:=hrel
  go_wp2_with fail
  refine HF.out.mono ?_
  rintro e w1 ⟨rfl,hb1⟩
  obtain ⟨bq,oq,hA8,q0,q1,q2,q3⟩:=RdsV.cells (Rds.below HB.out.2.2 hb1) HLT.out
  rw [HU.out] at q0 q1 q2 q3
  simp only at q0 q1 q2 q3
  subst hA8
  have hr9:=box_below HB.out.2.1 hb1
  have hk9:=HB.out.1.trans (hb1.mono HB.out.1.size)
  have hc9:=β hr9
  have hf9:=fun j=>frozen_of_row _ _ j _ _ hr9
  have HCE:=κ (β (set4_same hr9 (.int .u8 uk) (.int .i64 ui) (.string us) (.bool ub)))
  have K5:=κ (below_set4 hk9 (g:=w.heap.size+1) (Nat.le_succ _) (.int .u8 uk) (.int .i64 ui) (.string us) (.bool ub))
  clear hr9 hk9 hb1
  go_wp2
  have hcE:=HCE.out
  exact bodyPost_ret (v:=.tuple #[.agg #[.int .u8 uk,.int .i64 ui,.string us,.bool ub],.int .i64 0]) (by simp [results,Tryz.results25,go_sem,hcE]) rfl (EvPost.mk rfl K5.out)
theorem val_col0 (A:Option Addr) (c:Nat) (l:List TabA) (rc:Nat) (rA:Option Addr) (wv:Value) (t s:List UInt8) (w:World) :
 Calls Tryz.prog 25 #[.slice A l.length c,(rcC t s).val,.slice rA 0 rc,wv] w (EvPost (Lp.nullV,0) w):=by
 simp only [RC.val,rcC]
 have hb0:Below w.heap.size w (((w.alloc (.cells #[.int .u8 2,.int .u8 0,.int .i64 0,.string ⟨#[]⟩,.bool false,.string ⟨t.toArray⟩,.string ⟨s.toArray⟩,.slice none 0 0] 35)).alloc (.cells #[.int .u8 0,.int .i64 0,.string ⟨#[]⟩,.bool false] 31)).alloc (.cells #[.int .u8 0,.int .i64 0,.string ⟨#[]⟩,.bool false] 31)):=ba (ba (ba (Below.refl _ _) _) _) _
 have hzx:=box_alloc (box_alloc (heap_alloc_new w (.cells #[.int .u8 2,.int .u8 0,.int .i64 0,.string ⟨#[]⟩,.bool false,.string ⟨t.toArray⟩,.string ⟨s.toArray⟩,.slice none 0 0] 35)) (.cells #[.int .u8 0,.int .i64 0,.string ⟨#[]⟩,.bool false] 31)) (.cells #[.int .u8 0,.int .i64 0,.string ⟨#[]⟩,.bool false] 31)
 have hz8:=box_alloc (heap_new2 w (.cells #[.int .u8 2,.int .u8 0,.int .i64 0,.string ⟨#[]⟩,.bool false,.string ⟨t.toArray⟩,.string ⟨s.toArray⟩,.slice none 0 0] 35) (.cells #[.int .u8 0,.int .i64 0,.string ⟨#[]⟩,.bool false] 31)) (.cells #[.int .u8 0,.int .i64 0,.string ⟨#[]⟩,.bool false] 31)
 have hcx:=β hzx
 have hz10:=heap_alloc_new ((w.alloc (.cells #[.int .u8 2,.int .u8 0,.int .i64 0,.string ⟨#[]⟩,.bool false,.string ⟨t.toArray⟩,.string ⟨s.toArray⟩,.slice none 0 0] 35)).alloc (.cells #[.int .u8 0,.int .i64 0,.string ⟨#[]⟩,.bool false] 31)) (.cells #[.int .u8 0,.int .i64 0,.string ⟨#[]⟩,.bool false] 31)
 rw [show ((w.alloc (.cells #[.int .u8 2,.int .u8 0,.int .i64 0,.string ⟨#[]⟩,.bool false,.string ⟨t.toArray⟩,.string ⟨s.toArray⟩,.slice none 0 0] 35)).alloc (.cells #[.int .u8 0,.int .i64 0,.string ⟨#[]⟩,.bool false] 31)).heap.size=w.heap.size+1+1 by simp] at hz10
 have HB:=κ (ι hb0 (ι hz8 hz10))
 clear hb0 hzx hz8 hz10
 go_enter Tryz.func25,Tryz.ntmps25
 go_wp2_with fail
 generalize (((w.alloc (.cells #[.int .u8 2,.int .u8 0,.int .i64 0,.string ⟨#[]⟩,.bool false,.string ⟨t.toArray⟩,.string ⟨s.toArray⟩,.slice none 0 0] 35)).alloc (.cells #[.int .u8 0,.int .i64 0,.string ⟨#[]⟩,.bool false] 31)).alloc (.cells #[.int .u8 0,.int .i64 0,.string ⟨#[]⟩,.bool false] 31))=W at *
 go_loopw [35] (fun s35 wr=>s35=.int .i64 0∧W=wr) (fun _ _=>0)
 case atStart=>exact ⟨rfl,rfl⟩
 case round =>
  obtain ⟨rfl,rfl⟩:=hrel
  have hr9:=HB.out.2.1
  have cn9:=β HB.out.2.2
  have hk9:=HB.out.1
  have hc9:=β hr9
  have hf9:=fun j=>frozen_of_row _ _ j _ _ hr9
  have HCE:=κ (β (set4_same hr9 (.int .u8 0) (.int .i64 0) (.string ⟨#[]⟩) (.bool false)))
  have K5:=κ (below_set4 hk9 (g:=w.heap.size+1) (Nat.le_succ _) (.int .u8 0) (.int .i64 0) (.string ⟨#[]⟩) (.bool false))
  clear hr9 hk9
  go_wp2
  have hcE:=HCE.out
  exact bodyPost_ret (v:=.tuple #[.agg #[.int .u8 0,.int .i64 0,.string ⟨#[]⟩,.bool false],.int .i64 0]) (by simp [results,Tryz.results25,go_sem,hcE]) rfl (EvPost.mk rfl K5.out)
end Go.Proofs.YtkfjmgmjbljnbaaGreatDoor
