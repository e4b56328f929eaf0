/-
  The chapter's examples, and the walk of awake.
-/
import Derived.Test.YtajmjkliblippaaGreatDoorQ19
import Derived.Test.YtajmjkliblippaaGreatDoorQ28
import Derived.Test.YtajmjkliblippaaGreatDoorQ29
import Derived.Test.YtajmjkliblippaaGreatDoorStart46Z
import Derived.Test.YtajmjkliblippaaGreatDoorText46Z
set_option linter.unusedVariables false
namespace Go.Proofs.YtajmjkliblippaaGreatDoor
open Go.RowKit
def awR:List Rp:=[⟨1,1,600,0,0,20,1,12⟩,⟨2,1,605,0,0,20,1,12⟩,⟨3,1,602,6,0,20,1,12⟩]
def awM:List Ms:=[⟨1,256,0,153600,5120,1⟩,⟨1,0,256,0,5120,1⟩,⟨2,256,0,154880,5120,1⟩,⟨2,0,256,0,5120,1⟩,⟨3,256,0,154112,5120,1⟩,⟨3,0,256,1536,5120,1⟩]
theorem aw_rows:rowsT 12 600 0 110 110 awR = awM:=by kernel_rfl
theorem aw_src:srcL awM = [1,2,3]:=by
 refine asc_uniq _ _ (srcL_lt _) (by decide) fun x=>?_
 rw [mem_srcL]
 unfold awM
 simp only [List.mem_cons,List.not_mem_nil,or_false]
 constructor
 ·rintro ⟨m,rfl | rfl | rfl | rfl | rfl | rfl,rfl⟩ <;> simp
 ·rintro (rfl | rfl | rfl)
  ·exact ⟨_,.inl rfl,rfl⟩
  ·exact ⟨_,.inr (.inr (.inl rfl)),rfl⟩
  ·exact ⟨_,.inr (.inr (.inr (.inr (.inl rfl)))),rfl⟩
theorem aw_flt:S44.fltF awM = (0,0):=by
 unfold S44.fltF
 rw [aw_src]
 decide +kernel
theorem aw_wo:woL awM 0 = awM:=by rfl
theorem aw_lev:levF awM = (⟨602,2,22,22⟩,0):=by
 unfold levF
 rw [aw_src]
 rfl
theorem aw_fix:fixF awM ⟨600,0,110,110⟩ = ((⟨602,2,22,22⟩,0),true):=by
 unfold fixF fixL
 rw [aw_flt,if_pos rfl,aw_wo,aw_lev,if_pos rfl]
 rfl
theorem aw_one:stpC ⟨0,0,100,100⟩ 10 0 12 300 0 5 [] = ⟨⟨600,0,110,110⟩,1,0⟩:=by kernel_rfl
theorem aw_two:stpC ⟨0,0,100,100⟩ 10 0 12 300 0 5 awR = ⟨⟨602,2,22,22⟩,0,0⟩:=by
 unfold stpC
 rw [show movB ⟨0,0,100,100⟩ 300 0 5 (12 - 10) = ⟨600,0,110,110⟩ from rfl]
 simp only
 rw [aw_rows]
 unfold cycF
 rw [aw_fix,if_pos rfl]
theorem aw_e1:stpE2 ⟨0,0,100,100⟩ 10 0 12 300 0 5 50 0 = 0:=by decide +kernel
theorem aw_e2:stpE2 ⟨0,0,100,100⟩ 10 0 12 300 0 5 50 3 = 0:=by decide +kernel
theorem aw_txt:textS ⟨0,0,100,100⟩ 10 0 = [48,32,48,32,49,48,48,32,49,48,48,32,49,48,32,48]:=by decide +kernel
theorem aw_rg {b:Nat} {w:World} (h:Hid (Blk [.int .i64 1,.int .u8 1,.int .i64 600,.int .i64 0,.int .i64 0,.int .i64 20,.int .i64 1,.int .i64 12,.int .i64 2,.int .u8 1,.int .i64 605,.int .i64 0,.int .i64 0,.int .i64 20,.int .i64 1,.int .i64 12,.int .i64 3,.int .u8 1,.int .i64 602,.int .i64 6,.int .i64 0,.int .i64 20,.int .i64 1,.int .i64 12] b w)):RlG awR (.slice (some ⟨b,0,none⟩) 3 3) w:=by
 have h:=h.out
 refine ⟨some ⟨b,0,none⟩,3,rfl,⟨by decide,by decide⟩,fun k hk=>⟨b,0,rfl,⟨h.lt,?_,?_,?_,?_,?_,?_,?_,?_⟩⟩⟩
 all_goals
  intro i hi
  have hi3:i < 3:=hi
  rcases (show i = 0∨i = 1∨i = 2 by omega) with rfl | rfl | rfl
 ·exact h.c 0 _ rfl
 ·exact h.c 8 _ rfl
 ·exact h.c 16 _ rfl
 ·exact h.c 1 _ rfl
 ·exact h.c 9 _ rfl
 ·exact h.c 17 _ rfl
 ·exact h.c 2 _ rfl
 ·exact h.c 10 _ rfl
 ·exact h.c 18 _ rfl
 ·exact h.c 3 _ rfl
 ·exact h.c 11 _ rfl
 ·exact h.c 19 _ rfl
 ·exact h.c 4 _ rfl
 ·exact h.c 12 _ rfl
 ·exact h.c 20 _ rfl
 ·exact h.c 5 _ rfl
 ·exact h.c 13 _ rfl
 ·exact h.c 21 _ rfl
 ·exact h.c 6 _ rfl
 ·exact h.c 14 _ rfl
 ·exact h.c 22 _ rfl
 ·exact h.c 7 _ rfl
 ·exact h.c 15 _ rfl
 ·exact h.c 23 _ rfl
set_option maxHeartbeats 40000000
set_option maxRecDepth 100000
theorem awake_any (w:World) (hE:Env w):Calls Tryz.prog 11 #[] w fun e w'=>e = .returned (.bool true)∧Below w.heap.size w w':=by
 have HE:=Lib.hid hE
 have ST:=Lib.hid fun w=>start_good ⟨0,0,100,100⟩ 10 w (by decide +kernel)
 have R1:=Lib.hid fun w=>report_any 1 600 0 w
 have R2:=Lib.hid fun w=>report_any 2 605 0 w
 have R3:=Lib.hid fun w=>report_any 3 602 6 w
 have P1:=fun w=>step_okR ⟨0,0,100,100⟩ 10 0 12 300 0 5 50 [] (.slice none 0 0) w (rg_nil w) (fun i hi=>absurd hi (by simp)) aw_e1
 have P2:=fun v w h=>step_okR ⟨0,0,100,100⟩ 10 0 12 300 0 5 50 awR v w h (fun i hi=>by
  have hi3:i < 3:=hi
  rcases (show i = 0∨i = 1∨i = 2 by omega) with rfl | rfl | rfl <;> decide) aw_e2
 have TX:=fun w h=>textS_any ⟨0,0,100,100⟩ 10 0 w h
 rw [aw_one] at P1
 rw [aw_two] at P2
 rw [aw_txt] at TX
 simp only [show useB 110 110 50 = false from rfl,show useB 22 22 50 = true from rfl] at P1 P2
 have P1:=Lib.hid P1
 have P2:=Lib.hid P2
 have TX:=Lib.hid TX
 clear hE
 have HB:=Lib.hid (Below.refl w.heap.size w)
 go_enter Tryz.func11,Tryz.ntmps11
 go_wp2_with fail
 refine (ST.out _).mono ?_
 rintro e1 w1 ⟨rfl,hb1⟩
 replace HB:=hT HB hb1
 clear hb1
 go_upto_region 2 with (fail)
 obtain ⟨KS,hb2⟩:=alB w1 #[.int .i64 0,.int .i64 0,.int .i64 100,.int .i64 100,.int .i64 10,.int .i64 0] 27
 have hnS:=HB.out.size
 replace HB:=hT HB hb2
 clear hb2
 generalize w1.alloc _ = w2 at *
 generalize w1.heap.size = bS at *
 go_upto_region 3 with (fail)
 obtain ⟨KI,hb3⟩:=alB w2 #[.int .i64 12,.slice none 0 0,.int .i64 300,.int .i64 0,.int .i64 5,.int .i64 50] 38
 have hnI:=HB.out.size
 have nzI_S:=KS.out.lt
 replace HB:=hT HB hb3
 replace KS:=hK KS hb3
 clear hb3
 generalize w2.alloc _ = w3 at *
 generalize w2.heap.size = bI at *
 have neI_S:bI≠bS:=by omega
 clear nzI_S
 obtain ⟨yS0,yS1,yS2,yS3,yS4,yS5,ySz⟩:=blk6 KS
 obtain ⟨yI0,yI1,yI2,yI3,yI4,yI5,yIz⟩:=blk6 KI
 go_wp2_with fail
 refine (P1.out _).mono ?_
 rintro e4 w4 ⟨rfl,hb4⟩
 refine up2 hb4 HB KS KI ?_
 clear hb4 yS0 yS1 yS2 yS3 yS4 yS5 ySz yI0 yI1 yI2 yI3 yI4 yI5 yIz HB KS KI
 intro HB KS KI
 go_upto_region 4 with (fail)
 have KA:=Lib.hid ((Blk.of (vs:=#[.int .i64 600,.int .i64 0,.int .i64 110,.int .i64 110,.int .i64 12,.int .i64 1]) (t:=27) (w:=w4) (b:=w4.heap.size) rfl).alloc (.cells #[.int .i64 600,.int .i64 0,.int .i64 110,.int .i64 110,.bool false,.int .i64 0] 41))
 have KX:=Lib.hid (Blk.of (vs:=#[.int .i64 600,.int .i64 0,.int .i64 110,.int .i64 110,.bool false,.int .i64 0]) (t:=41) (w:=w4.alloc (.cells #[.int .i64 600,.int .i64 0,.int .i64 110,.int .i64 110,.int .i64 12,.int .i64 1] 27)) (b:=w4.heap.size + 1) (by simp))
 have hb5:Below w4.heap.size w4 ((w4.alloc (.cells #[.int .i64 600,.int .i64 0,.int .i64 110,.int .i64 110,.int .i64 12,.int .i64 1] 27)).alloc (.cells #[.int .i64 600,.int .i64 0,.int .i64 110,.int .i64 110,.bool false,.int .i64 0] 41)):=((Below.refl _ _).alloc (Nat.le_refl _) _).alloc (by simp) _
 have hnA:=HB.out.size
 have nzA_S:=KS.out.lt
 have nzA_I:=KI.out.lt
 refine up2 hb5 HB KS KI ?_
 clear hb5 HB KS KI
 intro HB KS KI
 generalize (w4.alloc _).alloc _ = w5 at *
 generalize w4.heap.size = bA at *
 have neA_S:bA≠bS:=by omega
 have neX_S:bA + 1≠bS:=by omega
 have neA_I:bA≠bI:=by omega
 have neX_I:bA + 1≠bI:=by omega
 clear nzA_S nzA_I
 go_wp2_with fail
 refine (R1.out _).mono ?_
 rintro e6 w6 ⟨rfl,hb6⟩
 refine up4 hb6 HB KS KI KA KX ?_
 clear hb6 HB KS KI KA KX
 intro HB KS KI KA KX
 go_wp2_with fail
 refine (R2.out _).mono ?_
 rintro e7 w7 ⟨rfl,hb7⟩
 refine up4 hb7 HB KS KI KA KX ?_
 clear hb7 HB KS KI KA KX
 intro HB KS KI KA KX
 go_wp2_with fail
 refine (R3.out _).mono ?_
 rintro e8 w8 ⟨rfl,hb8⟩
 refine up4 hb8 HB KS KI KA KX ?_
 clear hb8 HB KS KI KA KX
 intro HB KS KI KA KX
 obtain ⟨yI0,yI1,yI2,yI3,yI4,yI5,yIz,yIf0,yIf1,yIf2,yIf3,yIf4,yIf5⟩:=blf6 KI
 go_upto_region 5 with (fail)
 replace KI:=kst KI 1 (.slice (some ⟨w8.heap.size,0,none⟩) 3 3)
 refine ot3 (st1 w8 bI 1 (.slice (some ⟨w8.heap.size,0,none⟩) 3 3)) HB KS KA KX (by omega) (by omega) (by omega) (by omega) ?_
 clear HB KS KA KX
 intro HB KS KA KX
 clear yI0 yI1 yI2 yI3 yI4 yI5 yIz yIf0 yIf1 yIf2 yIf3 yIf4 yIf5
 simp only [List.set] at KI
 have hz9:((w8.setCell ⟨bI,1,none⟩ (.slice (some ⟨w8.heap.size,0,none⟩) 3 3))).heap.size = w8.heap.size:=by simp [World.setCell]
 generalize w8.setCell _ _ = w9 at *
 rw [← hz9] at KI ⊢
 clear hz9
 obtain ⟨KR,hb10⟩:=alB w9 #[.int .i64 1,.int .u8 1,.int .i64 600,.int .i64 0,.int .i64 0,.int .i64 20,.int .i64 1,.int .i64 12,.int .i64 2,.int .u8 1,.int .i64 605,.int .i64 0,.int .i64 0,.int .i64 20,.int .i64 1,.int .i64 12,.int .i64 3,.int .u8 1,.int .i64 602,.int .i64 6,.int .i64 0,.int .i64 20,.int .i64 1,.int .i64 12] 49
 have hnR:=HB.out.size
 have nzR_S:=KS.out.lt
 have nzR_I:=KI.out.lt
 have nzR_A:=KA.out.lt
 have nzR_X:=KX.out.lt
 refine up4 hb10 HB KS KI KA KX ?_
 clear hb10 HB KS KI KA KX
 intro HB KS KI KA KX
 generalize w9.alloc _ = w10 at *
 generalize w9.heap.size = bR at *
 have neR_S:bR≠bS:=by omega
 have neR_I:bR≠bI:=by omega
 have neR_A:bR≠bA:=by omega
 have neR_X:bR≠(bA + 1):=by omega
 clear nzR_S nzR_I nzR_A nzR_X
 have RL:=Lib.hid (aw_rg KR)
 obtain ⟨yS0,yS1,yS2,yS3,yS4,yS5,ySz⟩:=blk6 KS
 obtain ⟨yI0,yI1,yI2,yI3,yI4,yI5,yIz⟩:=blk6 KI
 go_wp2_with fail
 refine (P2.out _ _ RL.out).mono ?_
 rintro e11 w11 ⟨rfl,hb11⟩
 refine up5 hb11 HB KS KI KA KX KR ?_
 clear HB KS KI KA KX KR
 intro HB KS KI KA KX KR
 replace RL:=Lib.hid (RL.out.below hb11)
 clear yS0 yS1 yS2 yS3 yS4 yS5 ySz yI0 yI1 yI2 yI3 yI4 yI5 yIz
 clear hb11
 go_upto_region 6 with (fail)
 have KN:=Lib.hid ((Blk.of (vs:=#[.int .i64 602,.int .i64 2,.int .i64 22,.int .i64 22,.int .i64 12,.int .i64 0]) (t:=27) (w:=w11) (b:=w11.heap.size) rfl).alloc (.cells #[.int .i64 602,.int .i64 2,.int .i64 22,.int .i64 22,.bool true,.int .i64 0] 41))
 have KY:=Lib.hid (Blk.of (vs:=#[.int .i64 602,.int .i64 2,.int .i64 22,.int .i64 22,.bool true,.int .i64 0]) (t:=41) (w:=w11.alloc (.cells #[.int .i64 602,.int .i64 2,.int .i64 22,.int .i64 22,.int .i64 12,.int .i64 0] 27)) (b:=w11.heap.size + 1) (by simp))
 have hb12:Below w11.heap.size w11 ((w11.alloc (.cells #[.int .i64 602,.int .i64 2,.int .i64 22,.int .i64 22,.int .i64 12,.int .i64 0] 27)).alloc (.cells #[.int .i64 602,.int .i64 2,.int .i64 22,.int .i64 22,.bool true,.int .i64 0] 41)):=((Below.refl _ _).alloc (Nat.le_refl _) _).alloc (by simp) _
 have hnN:=HB.out.size
 have nzN_S:=KS.out.lt
 have nzN_I:=KI.out.lt
 have nzN_A:=KA.out.lt
 have nzN_X:=KX.out.lt
 have nzN_R:=KR.out.lt
 refine up5 hb12 HB KS KI KA KX KR ?_
 clear HB KS KI KA KX KR
 intro HB KS KI KA KX KR
 replace RL:=Lib.hid (RL.out.below hb12)
 clear hb12
 generalize (w11.alloc _).alloc _ = w12 at *
 generalize w11.heap.size = bN at *
 have neN_S:bN≠bS:=by omega
 have neY_S:bN + 1≠bS:=by omega
 have neN_I:bN≠bI:=by omega
 have neY_I:bN + 1≠bI:=by omega
 have neN_A:bN≠bA:=by omega
 have neY_A:bN + 1≠bA:=by omega
 have neN_X:bN≠(bA + 1):=by omega
 have neY_X:bN + 1≠(bA + 1):=by omega
 have neN_R:bN≠bR:=by omega
 have neY_R:bN + 1≠bR:=by omega
 clear nzN_S nzN_I nzN_A nzN_X nzN_R
 obtain ⟨yS0,yS1,yS2,yS3,yS4,yS5,ySz⟩:=blk6 KS
 obtain ⟨yA0,yA1,yA2,yA3,yA4,yA5,yAz⟩:=blk6 KA
 obtain ⟨yX0,yX1,yX2,yX3,yX4,yX5,yXz⟩:=blk6 KX
 obtain ⟨yN0,yN1,yN2,yN3,yN4,yN5,yNz⟩:=blk6 KN
 obtain ⟨yY0,yY1,yY2,yY3,yY4,yY5,yYz⟩:=blk6 KY
 go_wp2_with fail
 refine (TX.out _ (HE.out.below HB.out)).mono ?_
 rintro e13 w13 ⟨rfl,hb13⟩
 refine up7 hb13 HB KS KI KA KX KR KN KY ?_
 clear HB KS KI KA KX KR KN KY
 intro HB KS KI KA KX KR KN KY
 replace RL:=Lib.hid (RL.out.below hb13)
 clear yS0 yS1 yS2 yS3 yS4 yS5 ySz yA0 yA1 yA2 yA3 yA4 yA5 yAz yX0 yX1 yX2 yX3 yX4 yX5 yXz yN0 yN1 yN2 yN3 yN4 yN5 yNz yY0 yY1 yY2 yY3 yY4 yY5 yYz
 clear hb13
 go_wp2
 go_ret
 exact ⟨rfl,HB.out⟩
end Go.Proofs.YtajmjkliblippaaGreatDoor
