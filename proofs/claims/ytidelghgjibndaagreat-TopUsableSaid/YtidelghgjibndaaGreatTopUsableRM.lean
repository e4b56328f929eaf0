/-
  Two regions of the law TopUsable, walked by themselves.
-/
import Derived.Test.YtidelghgjibndaaGreatM7t8
import Derived.Test.YtidelghgjibndaaGreatSafe7M
import Derived.Deep.DeepCutAuto
namespace Go.Proofs.YtidelghgjibndaaGreat.topUsable
set_option linter.unusedVariables false
open Go.ChangeShapes Go.WideShapes Go.ChangeAt Go.RowKit

/-- a region of the function's text, by its number -/
def rgnOf (n : Nat) : Code → Option Code
  | .region i ops d => if i = n then some (.region i ops d) else none
  | .seq a b => match rgnOf n a with
    | some c => some c
    | none => rgnOf n b
  | .cond _ a b => match rgnOf n a with
    | some c => some c
    | none => rgnOf n b
  | .block _ c => rgnOf n c
  | .loop c => rgnOf n c
  | .scope c => rgnOf n c
  | _ => none
noncomputable def rgC (n : Nat) : Code := ((Tryz.f7.body.bind (rgnOf n)).getD .skip)
set_option maxHeartbeats 40000000 in
set_option maxRecDepth 100000 in
theorem reg13 {a0 a1 a2 a5 a6 a7 a9 a10 a11 a14 a15 a16 a17 a18 a19 a20 a21 a22 a23 a24 a25 a26 a27 a28 a29 a30 a31 a32 a33 a34 a35 a36 a37 a38 a39 a40 a41 a42 a43 a44 a45 a46 a47 a48 a49 a50 a51 a52 a53 a54 a55 a56 a57 a58 a59 a60 a61 a62 a63 a64 a65 a66 a67 a68 a69 a70 a71 a72 a73 a74 a75 a76 a77 a78 a79 a80 a81 a82 a83 a84 a85 a86 a87 a88 a89 a90 a91 a92 a93 a94 a95 a96 a97 a98 a99 a100 a101 a102 a103 a104 a105 a106 a107 a108 a109 a110 a111 a112 a113 a114 a115 a116 a117 a118 a119 a120 a121 a122 a123 a124 a125 a126 a127 a128 a129 a130 a131 a132 a133 a134 a135 a136 a137 a138 a139 a140 a141 a142 a143 a144 a145 a146 a147 a148 a149 a150 a151 a152 a153 a154 a155 a156 a157 a158 a159 a160 a161 a162 a163 a164 a165 a166 a167 a168 a169 a170 a171 a172 a173 a174 a175 a176 a177 a178 a179 a180 a181 a182 a183 a184 a185 a186 a187 a188 a189 a190 a191 a192 a193 a194 a195 a196 a197 a198 a199 a200 a201 a202 a203 a204 a205 : Value} {bS bF bC : Nat} {cx cy x y t m px py tk ve vn dr rq qx qy fa n r : Int} {rv : Value} {w : World} (KS : Hid (Blk [.int .i64 cx, .int .i64 cy, .int .i64 x, .int .i64 y, .int .i64 t, .int .i64 m] bS w)) (KF : Hid (Blk [.int .i64 px, .int .i64 py] bF w)) (KC : Hid (Blk [.int .i64 tk, rv, .int .i64 ve, .int .i64 vn, .int .i64 dr, .int .i64 rq, .int .i64 qx, .int .i64 qy, .int .i64 fa] bC w)) (HRGN : Hid ((-2000 ≤ ve ∧ ve ≤ 2000) ∧ (-2000 ≤ vn ∧ vn ≤ 2000) ∧ (0 ≤ dr ∧ dr ≤ 1000) ∧ 0 ≤ n ∧ n ≤ 144000)) (HRB : Hid (-(2000 * 144000) ≤ r ∧ r ≤ 2000 * 144000)) (K : Act → World → Prop) (Q : Exit → Act → World → Prop)
    (hK : ∀ (u72 u73 u74 u75 u76 u77 u78 u79 u80 u81 u82 u83 u84 u85 u86 u87 u88 u89 u90 u91 u92 u93 u94 u95 u96 u97 u98 u99 u100 u101 u102 u103 u104 u105 u106 u107 u108 u109 u110 u111 u112 u113 u114 u115 u116 u117 u118 u119 u120 u121 u122 : Value) (q : Bool) (wx : World), Below w.heap.size w wx → (q = false → vldP px py = true ∧ vldP qx qy = true ∧ inN cx cy x y px py = true ∧ (qx - px - ve * n ≤ r ∧ -(qx - px - ve * n) ≤ r) ∧ qy - py - vn * n ≤ r ∧ -(qy - py - vn * n) ≤ r) → K ⟨#[a0, a1, a2, .pointer (some ⟨bS, 0, none⟩), .pointer (some ⟨bF, 0, none⟩), a5, a6, a7, .pointer (some ⟨bC, 0, none⟩), a9, a10, a11, .int .i64 n, .int .i64 r, a14, a15, a16, a17, a18, a19, a20, a21, a22, a23, a24, a25, a26, a27, a28, a29, a30, a31, a32, a33, a34, a35, a36, a37, a38, a39, a40, a41, a42, a43, a44, a45, a46, a47, a48, a49, a50, a51, a52, a53, a54, a55, a56, a57, a58, a59, a60, a61, a62, a63, a64, a65, a66, a67, a68, a69, a70, a71, u72, u73, u74, u75, u76, u77, u78, u79, u80, u81, u82, u83, u84, u85, u86, u87, u88, u89, u90, u91, u92, u93, u94, u95, u96, u97, u98, u99, u100, u101, u102, u103, u104, u105, u106, u107, u108, u109, u110, u111, u112, u113, u114, u115, u116, u117, u118, u119, u120, u121, u122, .bool q, a124, a125, a126, a127, a128, a129, a130, a131, a132, a133, a134, a135, a136, a137, a138, a139, a140, a141, a142, a143, a144, a145, a146, a147, a148, a149, a150, a151, a152, a153, a154, a155, a156, a157, a158, a159, a160, a161, a162, a163, a164, a165, a166, a167, a168, a169, a170, a171, a172, a173, a174, a175, a176, a177, a178, a179, a180, a181, a182, a183, a184, a185, a186, a187, a188, a189, a190, a191, a192, a193, a194, a195, a196, a197, a198, a199, a200, a201, a202, a203, a204, a205], []⟩ wx) : Code.wp Tryz.prog (rgC 13) (Exit.then K Q) ⟨#[a0, a1, a2, .pointer (some ⟨bS, 0, none⟩), .pointer (some ⟨bF, 0, none⟩), a5, a6, a7, .pointer (some ⟨bC, 0, none⟩), a9, a10, a11, .int .i64 n, .int .i64 r, a14, a15, a16, a17, a18, a19, a20, a21, a22, a23, a24, a25, a26, a27, a28, a29, a30, a31, a32, a33, a34, a35, a36, a37, a38, a39, a40, a41, a42, a43, a44, a45, a46, a47, a48, a49, a50, a51, a52, a53, a54, a55, a56, a57, a58, a59, a60, a61, a62, a63, a64, a65, a66, a67, a68, a69, a70, a71, a72, a73, a74, a75, a76, a77, a78, a79, a80, a81, a82, a83, a84, a85, a86, a87, a88, a89, a90, a91, a92, a93, a94, a95, a96, a97, a98, a99, a100, a101, a102, a103, a104, a105, a106, a107, a108, a109, a110, a111, a112, a113, a114, a115, a116, a117, a118, a119, a120, a121, a122, a123, a124, a125, a126, a127, a128, a129, a130, a131, a132, a133, a134, a135, a136, a137, a138, a139, a140, a141, a142, a143, a144, a145, a146, a147, a148, a149, a150, a151, a152, a153, a154, a155, a156, a157, a158, a159, a160, a161, a162, a163, a164, a165, a166, a167, a168, a169, a170, a171, a172, a173, a174, a175, a176, a177, a178, a179, a180, a181, a182, a183, a184, a185, a186, a187, a188, a189, a190, a191, a192, a193, a194, a195, a196, a197, a198, a199, a200, a201, a202, a203, a204, a205], []⟩ w := by
  have HK := Lib.hid hK
  clear hK
  conv => arg 2; whnf
  have HB := Lib.hid (Below.refl w.heap.size w)
  have VP := Lib.hid fun w => vldP_any px py w
  have VQ := Lib.hid fun w => vldP_any qx qy w
  have IN := Lib.hid fun w => inN_any cx cy x y px py w
  obtain ⟨vp, hvp⟩ : ∃ z, vldP px py = z := ⟨_, rfl⟩
  obtain ⟨vq, hvq⟩ : ∃ z, vldP qx qy = z := ⟨_, rfl⟩
  obtain ⟨ib, hib⟩ : ∃ z, inN cx cy x y px py = z := ⟨_, rfl⟩
  rw [hvp] at VP
  rw [hvq] at VQ
  rw [hib] at IN
  have HVP := Lib.hid hvp
  have HVQ := Lib.hid hvq
  have HIB := Lib.hid hib
  clear hvp hvq hib
  cases vp with
  | false =>
    obtain ⟨yF_0, yF_1, yF_z⟩ := blk2 KF
    go_wp2_with fail
    refine (VP.out _).mono ?_
    rintro e501 w501 ⟨rfl, hb501⟩
    replace HB := hT HB hb501
    replace KS := hK KS hb501
    replace KF := hK KF hb501
    replace KC := hK KC hb501
    clear yF_0 yF_1 yF_z
    clear hb501
    go_wp2_with fail
    exact HK.out _ _ _ _ _ _ _ _ _ _ _ _ _ _ _ _ _ _ _ _ _ _ _ _ _ _ _ _ _ _ _ _ _ _ _ _ _ _ _ _ _ _ _ _ _ _ _ _ _ _ _ _ _ HB.out (fun q => absurd q (by simp))
  | true =>
    cases vq with
    | false =>
      obtain ⟨yF_0, yF_1, yF_z⟩ := blk2 KF
      go_wp2_with fail
      refine (VP.out _).mono ?_
      rintro e501 w501 ⟨rfl, hb501⟩
      replace HB := hT HB hb501
      replace KS := hK KS hb501
      replace KF := hK KF hb501
      replace KC := hK KC hb501
      clear yF_0 yF_1 yF_z
      clear hb501
      obtain ⟨yC_0, yC_1, yC_2, yC_3, yC_4, yC_5, yC_6, yC_7, yC_8, yC_z⟩ := blk9 KC
      go_wp2_with fail
      refine (VQ.out _).mono ?_
      rintro e502 w502 ⟨rfl, hb502⟩
      replace HB := hT HB hb502
      replace KS := hK KS hb502
      replace KF := hK KF hb502
      replace KC := hK KC hb502
      clear yC_0 yC_1 yC_2 yC_3 yC_4 yC_5 yC_6 yC_7 yC_8 yC_z
      clear hb502
      go_wp2_with fail
      exact HK.out _ _ _ _ _ _ _ _ _ _ _ _ _ _ _ _ _ _ _ _ _ _ _ _ _ _ _ _ _ _ _ _ _ _ _ _ _ _ _ _ _ _ _ _ _ _ _ _ _ _ _ _ _ HB.out (fun q => absurd q (by simp))
    | true =>
      cases ib with
      | false =>
        obtain ⟨yF_0, yF_1, yF_z⟩ := blk2 KF
        go_wp2_with fail
        refine (VP.out _).mono ?_
        rintro e501 w501 ⟨rfl, hb501⟩
        replace HB := hT HB hb501
        replace KS := hK KS hb501
        replace KF := hK KF hb501
        replace KC := hK KC hb501
        clear yF_0 yF_1 yF_z
        clear hb501
        obtain ⟨yC_0, yC_1, yC_2, yC_3, yC_4, yC_5, yC_6, yC_7, yC_8, yC_z⟩ := blk9 KC
        go_wp2_with fail
        refine (VQ.out _).mono ?_
        rintro e502 w502 ⟨rfl, hb502⟩
        replace HB := hT HB hb502
        replace KS := hK KS hb502
        replace KF := hK KF hb502
        replace KC := hK KC hb502
        clear yC_0 yC_1 yC_2 yC_3 yC_4 yC_5 yC_6 yC_7 yC_8 yC_z
        clear hb502
        obtain ⟨yS_0, yS_1, yS_2, yS_3, yS_4, yS_5, yS_z⟩ := blk6 KS
        obtain ⟨yF_0, yF_1, yF_z⟩ := blk2 KF
        go_wp2_with fail
        refine (IN.out _).mono ?_
        rintro e503 w503 ⟨rfl, hb503⟩
        replace HB := hT HB hb503
        replace KS := hK KS hb503
        replace KF := hK KF hb503
        replace KC := hK KC hb503
        clear yS_0 yS_1 yS_2 yS_3 yS_4 yS_5 yS_z yF_0 yF_1 yF_z
        clear hb503
        go_wp2_with fail
        exact HK.out _ _ _ _ _ _ _ _ _ _ _ _ _ _ _ _ _ _ _ _ _ _ _ _ _ _ _ _ _ _ _ _ _ _ _ _ _ _ _ _ _ _ _ _ _ _ _ _ _ _ _ _ _ HB.out (fun q => absurd q (by simp))
      | true =>
        obtain ⟨yF_0, yF_1, yF_z⟩ := blk2 KF
        go_wp2_with fail
        refine (VP.out _).mono ?_
        rintro e501 w501 ⟨rfl, hb501⟩
        replace HB := hT HB hb501
        replace KS := hK KS hb501
        replace KF := hK KF hb501
        replace KC := hK KC hb501
        clear yF_0 yF_1 yF_z
        clear hb501
        obtain ⟨yC_0, yC_1, yC_2, yC_3, yC_4, yC_5, yC_6, yC_7, yC_8, yC_z⟩ := blk9 KC
        go_wp2_with fail
        refine (VQ.out _).mono ?_
        rintro e502 w502 ⟨rfl, hb502⟩
        replace HB := hT HB hb502
        replace KS := hK KS hb502
        replace KF := hK KF hb502
        replace KC := hK KC hb502
        clear yC_0 yC_1 yC_2 yC_3 yC_4 yC_5 yC_6 yC_7 yC_8 yC_z
        clear hb502
        obtain ⟨yS_0, yS_1, yS_2, yS_3, yS_4, yS_5, yS_z⟩ := blk6 KS
        obtain ⟨yF_0, yF_1, yF_z⟩ := blk2 KF
        go_wp2_with fail
        refine (IN.out _).mono ?_
        rintro e503 w503 ⟨rfl, hb503⟩
        replace HB := hT HB hb503
        replace KS := hK KS hb503
        replace KF := hK KF hb503
        replace KC := hK KC hb503
        clear yS_0 yS_1 yS_2 yS_3 yS_4 yS_5 yS_z yF_0 yF_1 yF_z
        clear hb503
        have bp := vldP_iff.1 HVP.out
        have bq := vldP_iff.1 HVQ.out
        have b1' := mulb (X := 2000) (Y := 144000) (by omega) (show -2000 ≤ ve by have := HRGN.out; omega) (show ve ≤ 2000 by have := HRGN.out; omega) (show -144000 ≤ n by have := HRGN.out; omega) (show n ≤ 144000 by have := HRGN.out; omega)
        obtain ⟨a1', ha1'⟩ : ∃ z, ve * n = z := ⟨_, rfl⟩
        rw [ha1'] at b1'
        have sa1' : IntKind.i64.wrap (ve * n) = a1' := by rw [ha1']; exact IntWalk.i64_in _ (by omega)
        obtain ⟨u1', hu1'⟩ : ∃ z, qx - px = z := ⟨_, rfl⟩
        have su1' : IntKind.i64.wrap (qx - px) = u1' := (IntWalk.i64_in _ (by omega)).trans hu1'
        obtain ⟨d1', hd1'⟩ : ∃ z, u1' - a1' = z := ⟨_, rfl⟩
        have sd1' : IntKind.i64.wrap (u1' - a1') = d1' := (IntWalk.i64_in _ (by omega)).trans hd1'
        have hb1'' : -9223372036854775807 ≤ d1' ∧ d1' ≤ 9223372036854775807 := by omega
        have HD1' := Lib.hid (show d1' = qx - px - ve * n by rw [ha1']; omega)
        have LE1' := Lib.hid (nsz_le (n := d1') (d := r) hb1''.1 hb1''.2)
        have NZ1' := Lib.hid fun w => nsz_below d1' w
        clear b1' ha1' hu1' hd1' hb1''
        have b2' := mulb (X := 2000) (Y := 144000) (by omega) (show -2000 ≤ vn by have := HRGN.out; omega) (show vn ≤ 2000 by have := HRGN.out; omega) (show -144000 ≤ n by have := HRGN.out; omega) (show n ≤ 144000 by have := HRGN.out; omega)
        obtain ⟨a2', ha2'⟩ : ∃ z, vn * n = z := ⟨_, rfl⟩
        rw [ha2'] at b2'
        have sa2' : IntKind.i64.wrap (vn * n) = a2' := by rw [ha2']; exact IntWalk.i64_in _ (by omega)
        obtain ⟨u2', hu2'⟩ : ∃ z, qy - py = z := ⟨_, rfl⟩
        have su2' : IntKind.i64.wrap (qy - py) = u2' := (IntWalk.i64_in _ (by omega)).trans hu2'
        obtain ⟨d2', hd2'⟩ : ∃ z, u2' - a2' = z := ⟨_, rfl⟩
        have sd2' : IntKind.i64.wrap (u2' - a2') = d2' := (IntWalk.i64_in _ (by omega)).trans hd2'
        have hb2'' : -9223372036854775807 ≤ d2' ∧ d2' ≤ 9223372036854775807 := by omega
        have HD2' := Lib.hid (show d2' = qy - py - vn * n by rw [ha2']; omega)
        have LE2' := Lib.hid (nsz_le (n := d2') (d := r) hb2''.1 hb2''.2)
        have NZ2' := Lib.hid fun w => nsz_below d2' w
        clear b2' ha2' hu2' hd2' hb2''
        clear bp bq
        obtain ⟨yF_0, yF_1, yF_z⟩ := blk2 KF
        obtain ⟨yC_0, yC_1, yC_2, yC_3, yC_4, yC_5, yC_6, yC_7, yC_8, yC_z⟩ := blk9 KC
        go_wp2_with fail
        refine (NZ1'.out _).mono ?_
        rintro e504 w504 ⟨rfl, hb504⟩
        replace HB := hT HB hb504
        replace KS := hK KS hb504
        replace KF := hK KF hb504
        replace KC := hK KC hb504
        clear yF_0 yF_1 yF_z yC_0 yC_1 yC_2 yC_3 yC_4 yC_5 yC_6 yC_7 yC_8 yC_z
        clear hb504
        by_cases h1 : r < nsz d1'
        · have g1 : decide (r < nsz d1') = true := by simpa using h1
          clear h1
          go_wp2_with fail
          exact HK.out _ _ _ _ _ _ _ _ _ _ _ _ _ _ _ _ _ _ _ _ _ _ _ _ _ _ _ _ _ _ _ _ _ _ _ _ _ _ _ _ _ _ _ _ _ _ _ _ _ _ _ _ _ HB.out (fun q => absurd q (by simp))
        · have g1 : decide (r < nsz d1') = false := by simpa using h1
          have f1 := LE1'.out.1 (Int.not_lt.1 h1)
          clear h1
          obtain ⟨yF_0, yF_1, yF_z⟩ := blk2 KF
          obtain ⟨yC_0, yC_1, yC_2, yC_3, yC_4, yC_5, yC_6, yC_7, yC_8, yC_z⟩ := blk9 KC
          go_wp2_with fail
          refine (NZ2'.out _).mono ?_
          rintro e505 w505 ⟨rfl, hb505⟩
          replace HB := hT HB hb505
          replace KS := hK KS hb505
          replace KF := hK KF hb505
          replace KC := hK KC hb505
          clear yF_0 yF_1 yF_z yC_0 yC_1 yC_2 yC_3 yC_4 yC_5 yC_6 yC_7 yC_8 yC_z
          clear hb505
          by_cases h2 : r < nsz d2'
          · have g2 : decide (r < nsz d2') = true := by simpa using h2
            clear h2
            go_wp2_with fail
            exact HK.out _ _ _ _ _ _ _ _ _ _ _ _ _ _ _ _ _ _ _ _ _ _ _ _ _ _ _ _ _ _ _ _ _ _ _ _ _ _ _ _ _ _ _ _ _ _ _ _ _ _ _ _ _ HB.out (fun q => absurd q (by simp))
          · have g2 : decide (r < nsz d2') = false := by simpa using h2
            have f2 := LE2'.out.1 (Int.not_lt.1 h2)
            have HF := Lib.hid (show (qx - px - ve * n ≤ r ∧ -(qx - px - ve * n) ≤ r) ∧ qy - py - vn * n ≤ r ∧ -(qy - py - vn * n) ≤ r by rw [← HD1'.out, ← HD2'.out]; exact ⟨f1, f2⟩)
            clear h2 f1 f2
            go_wp2_with fail
            exact HK.out _ _ _ _ _ _ _ _ _ _ _ _ _ _ _ _ _ _ _ _ _ _ _ _ _ _ _ _ _ _ _ _ _ _ _ _ _ _ _ _ _ _ _ _ _ _ _ _ _ _ _ _ _ HB.out (fun _ => ⟨HVP.out, HVQ.out, HIB.out, HF.out⟩)
set_option maxHeartbeats 40000000 in
set_option maxRecDepth 100000 in
theorem reg21 {a0 a1 a2 a3 a4 a5 a6 a7 a11 a12 a13 a14 a15 a16 a17 a18 a19 a20 a21 a22 a23 a24 a25 a26 a27 a28 a29 a30 a31 a32 a33 a34 a35 a36 a37 a38 a39 a40 a41 a42 a43 a44 a45 a46 a47 a48 a49 a50 a51 a52 a53 a54 a55 a56 a57 a58 a59 a60 a61 a62 a63 a64 a65 a66 a67 a68 a69 a70 a71 a72 a73 a74 a75 a76 a77 a78 a79 a80 a81 a82 a83 a84 a85 a86 a87 a88 a89 a90 a91 a92 a93 a94 a95 a96 a97 a98 a99 a100 a101 a102 a103 a104 a105 a106 a107 a108 a109 a110 a111 a112 a113 a114 a115 a116 a117 a118 a119 a120 a121 a122 a123 a124 a125 a126 a127 a128 a129 a130 a131 a132 a133 a134 a135 a136 a137 a138 a139 a140 a141 a142 a143 a144 a145 a146 a147 a148 a149 a150 a151 a152 a153 a154 a155 a156 a157 a158 a159 a160 a161 a162 a163 a164 a165 a166 a167 a168 a169 a170 a171 a172 a173 a174 a175 a176 a177 a178 a179 a180 a181 a182 a183 a184 a185 a186 a187 a188 a189 a190 a191 a192 a193 a194 a195 a196 a197 a198 a199 a200 a201 a202 a203 a204 a205 : Value} {bC bN bE : Nat} {nx ny n1 n2 ms ex tk ve vn dr rq qx qy fa dx dy : Int} {us : Bool} {rv : Value} {w : World} (KC : Hid (Blk [.int .i64 tk, rv, .int .i64 ve, .int .i64 vn, .int .i64 dr, .int .i64 rq, .int .i64 qx, .int .i64 qy, .int .i64 fa] bC w)) (KN : Hid (Blk [.int .i64 nx, .int .i64 ny, .int .i64 n1, .int .i64 n2, .int .i64 tk, .int .i64 ms] bN w)) (KE : Hid (Blk [.int .i64 nx, .int .i64 ny, .int .i64 n1, .int .i64 n2, .bool us, .int .i64 ex] bE w)) (IN : Hid (∀ w : World, Calls Tryz.prog 10 #[.agg #[.int .i64 nx, .int .i64 ny, .int .i64 n1, .int .i64 n2], .agg #[.int .i64 qx, .int .i64 qy]] w fun e w' => e = .returned (.bool true) ∧ Below w.heap.size w w')) (NX : Hid (∀ w : World, Calls Tryz.prog 16 #[.int .i64 dx] w fun e w' => e = .returned (.int .i64 (nsz dx)) ∧ Below w.heap.size w w')) (NY : Hid (∀ w : World, Calls Tryz.prog 16 #[.int .i64 dy] w fun e w' => e = .returned (.int .i64 (nsz dy)) ∧ Below w.heap.size w w')) (w1' : IntKind.i64.wrap (qx - nx) = dx) (w2' : IntKind.i64.wrap (qy - ny) = dy) (gu : Hid (us = true → decide (rq < nsz dx) = false ∧ decide (rq < nsz dy) = false)) (S3 : Hid (ex = 0 ∨ ex = fa)) (K : Act → World → Prop) (Q : Exit → Act → World → Prop)
    (hK : ∀ (u153 u154 u155 u156 u157 u158 u159 u160 u161 u162 u163 u164 u165 u166 u167 u168 u169 u170 u171 u172 u173 u174 u175 u176 u177 u178 u179 u180 u181 u182 u183 u184 u185 u186 u187 u188 u189 u190 u191 u192 u193 u194 u195 u196 u197 u198 u199 u200 u201 : Value) (wx : World), Below w.heap.size w wx → K ⟨#[a0, a1, a2, a3, a4, a5, a6, a7, .pointer (some ⟨bC, 0, none⟩), .pointer (some ⟨bN, 0, none⟩), .pointer (some ⟨bE, 0, none⟩), a11, a12, a13, a14, a15, a16, a17, a18, a19, a20, a21, a22, a23, a24, a25, a26, a27, a28, a29, a30, a31, a32, a33, a34, a35, a36, a37, a38, a39, a40, a41, a42, a43, a44, a45, a46, a47, a48, a49, a50, a51, a52, a53, a54, a55, a56, a57, a58, a59, a60, a61, a62, a63, a64, a65, a66, a67, a68, a69, a70, a71, a72, a73, a74, a75, a76, a77, a78, a79, a80, a81, a82, a83, a84, a85, a86, a87, a88, a89, a90, a91, a92, a93, a94, a95, a96, a97, a98, a99, a100, a101, a102, a103, a104, a105, a106, a107, a108, a109, a110, a111, a112, a113, a114, a115, a116, a117, a118, a119, a120, a121, a122, a123, a124, a125, a126, a127, a128, a129, a130, a131, a132, a133, a134, a135, a136, a137, a138, a139, a140, a141, a142, a143, a144, a145, a146, a147, a148, a149, a150, a151, a152, u153, u154, u155, u156, u157, u158, u159, u160, u161, u162, u163, u164, u165, u166, u167, u168, u169, u170, u171, u172, u173, u174, u175, u176, u177, u178, u179, u180, u181, u182, u183, u184, u185, u186, u187, u188, u189, u190, u191, u192, u193, u194, u195, u196, u197, u198, u199, u200, u201, .bool false, a203, a204, a205], []⟩ wx) : Code.wp Tryz.prog (rgC 21) (Exit.then K Q) ⟨#[a0, a1, a2, a3, a4, a5, a6, a7, .pointer (some ⟨bC, 0, none⟩), .pointer (some ⟨bN, 0, none⟩), .pointer (some ⟨bE, 0, none⟩), a11, a12, a13, a14, a15, a16, a17, a18, a19, a20, a21, a22, a23, a24, a25, a26, a27, a28, a29, a30, a31, a32, a33, a34, a35, a36, a37, a38, a39, a40, a41, a42, a43, a44, a45, a46, a47, a48, a49, a50, a51, a52, a53, a54, a55, a56, a57, a58, a59, a60, a61, a62, a63, a64, a65, a66, a67, a68, a69, a70, a71, a72, a73, a74, a75, a76, a77, a78, a79, a80, a81, a82, a83, a84, a85, a86, a87, a88, a89, a90, a91, a92, a93, a94, a95, a96, a97, a98, a99, a100, a101, a102, a103, a104, a105, a106, a107, a108, a109, a110, a111, a112, a113, a114, a115, a116, a117, a118, a119, a120, a121, a122, a123, a124, a125, a126, a127, a128, a129, a130, a131, a132, a133, a134, a135, a136, a137, a138, a139, a140, a141, a142, a143, a144, a145, a146, a147, a148, a149, a150, a151, a152, a153, a154, a155, a156, a157, a158, a159, a160, a161, a162, a163, a164, a165, a166, a167, a168, a169, a170, a171, a172, a173, a174, a175, a176, a177, a178, a179, a180, a181, a182, a183, a184, a185, a186, a187, a188, a189, a190, a191, a192, a193, a194, a195, a196, a197, a198, a199, a200, a201, a202, a203, a204, a205], []⟩ w := by
  have HK := Lib.hid hK
  clear hK
  conv => arg 2; whnf
  have HB := Lib.hid (Below.refl w.heap.size w)
  cases us with
  | false =>
    by_cases he0 : ex = 0
    · have ge : (ex != 0) = false := by simpa using he0
      clear he0 S3
      clear gu w1' w2' NX NY
      have gN_0 := fun d os => cell_regrown (KN.out.c 0 _ rfl) d os
      have gN_1 := fun d os => cell_regrown (KN.out.c 1 _ rfl) d os
      have gN_2 := fun d os => cell_regrown (KN.out.c 2 _ rfl) d os
      have gN_3 := fun d os => cell_regrown (KN.out.c 3 _ rfl) d os
      have gE_0 := fun d os => cell_regrown (KE.out.c 0 _ rfl) d os
      have gE_1 := fun d os => cell_regrown (KE.out.c 1 _ rfl) d os
      have gE_2 := fun d os => cell_regrown (KE.out.c 2 _ rfl) d os
      have gE_3 := fun d os => cell_regrown (KE.out.c 3 _ rfl) d os
      have gE_4 := fun d os => cell_regrown (KE.out.c 4 _ rfl) d os
      have gE_5 := fun d os => cell_regrown (KE.out.c 5 _ rfl) d os
      have gC_5 := fun d os => cell_regrown (KC.out.c 5 _ rfl) d os
      have gC_6 := fun d os => cell_regrown (KC.out.c 6 _ rfl) d os
      have gC_7 := fun d os => cell_regrown (KC.out.c 7 _ rfl) d os
      have gC_8 := fun d os => cell_regrown (KC.out.c 8 _ rfl) d os
      have rv0 := Lib.hid (fun d os => Calls.regrown_of (IN.out (Go.Sort.grow (redrawn w d) os)))
      refine wp_region_quiet_below (by kernel_rfl) (by kernel_rfl) ?_
      generalize hact : Act.mk _ _ = act
      repeat (refine wpQuiet_step (fun K hK => ?_); subst hact; go_simp; (first | (generalize hact : Act.mk _ _ = act; refine hK act ?_; clear hK K) | (apply Exists.intro; refine ⟨fun _ => ?_, ?_⟩; (with_reducible exact rv0.out _ _); generalize hact : Act.mk _ _ = act; refine hK act ?_; clear hK K) | (rw [if_neg (by decide)]; go_simp; generalize hact : Act.mk _ _ = act; refine hK act ?_; clear hK K)))
      refine wpQuiet_nil ?_
      subst hact
      intro w601 hw601
      have hb601 : Below w.heap.size w w601 := by
        obtain ⟨⟨dq, osq⟩, hw2⟩ := hw601
        rw [hw2]; exact below_regrown _ dq osq
      clear hw601 gN_0 gN_1 gN_2 gN_3 gE_0 gE_1 gE_2 gE_3 gE_4 gE_5 gC_5 gC_6 gC_7 gC_8 rv0
      replace HB := hT HB hb601
      replace KC := hK KC hb601
      replace KN := hK KN hb601
      replace KE := hK KE hb601
      clear hb601
      exact HK.out _ _ _ _ _ _ _ _ _ _ _ _ _ _ _ _ _ _ _ _ _ _ _ _ _ _ _ _ _ _ _ _ _ _ _ _ _ _ _ _ _ _ _ _ _ _ _ _ _ _ HB.out
    · have ge : (ex != 0) = true := by simpa using he0
      have gf : (ex != fa) = false := by have := S3.out; simp; omega
      clear he0 S3
      clear gu w1' w2' NX NY
      have gN_0 := fun d os => cell_regrown (KN.out.c 0 _ rfl) d os
      have gN_1 := fun d os => cell_regrown (KN.out.c 1 _ rfl) d os
      have gN_2 := fun d os => cell_regrown (KN.out.c 2 _ rfl) d os
      have gN_3 := fun d os => cell_regrown (KN.out.c 3 _ rfl) d os
      have gE_0 := fun d os => cell_regrown (KE.out.c 0 _ rfl) d os
      have gE_1 := fun d os => cell_regrown (KE.out.c 1 _ rfl) d os
      have gE_2 := fun d os => cell_regrown (KE.out.c 2 _ rfl) d os
      have gE_3 := fun d os => cell_regrown (KE.out.c 3 _ rfl) d os
      have gE_4 := fun d os => cell_regrown (KE.out.c 4 _ rfl) d os
      have gE_5 := fun d os => cell_regrown (KE.out.c 5 _ rfl) d os
      have gC_5 := fun d os => cell_regrown (KC.out.c 5 _ rfl) d os
      have gC_6 := fun d os => cell_regrown (KC.out.c 6 _ rfl) d os
      have gC_7 := fun d os => cell_regrown (KC.out.c 7 _ rfl) d os
      have gC_8 := fun d os => cell_regrown (KC.out.c 8 _ rfl) d os
      have rv0 := Lib.hid (fun d os => Calls.regrown_of (IN.out (Go.Sort.grow (redrawn w d) os)))
      refine wp_region_quiet_below (by kernel_rfl) (by kernel_rfl) ?_
      generalize hact : Act.mk _ _ = act
      repeat (refine wpQuiet_step (fun K hK => ?_); subst hact; go_simp; (first | (generalize hact : Act.mk _ _ = act; refine hK act ?_; clear hK K) | (apply Exists.intro; refine ⟨fun _ => ?_, ?_⟩; (with_reducible exact rv0.out _ _); generalize hact : Act.mk _ _ = act; refine hK act ?_; clear hK K) | (rw [if_neg (by decide)]; go_simp; generalize hact : Act.mk _ _ = act; refine hK act ?_; clear hK K)))
      refine wpQuiet_nil ?_
      subst hact
      intro w601 hw601
      have hb601 : Below w.heap.size w w601 := by
        obtain ⟨⟨dq, osq⟩, hw2⟩ := hw601
        rw [hw2]; exact below_regrown _ dq osq
      clear hw601 gN_0 gN_1 gN_2 gN_3 gE_0 gE_1 gE_2 gE_3 gE_4 gE_5 gC_5 gC_6 gC_7 gC_8 rv0
      replace HB := hT HB hb601
      replace KC := hK KC hb601
      replace KN := hK KN hb601
      replace KE := hK KE hb601
      clear hb601
      exact HK.out _ _ _ _ _ _ _ _ _ _ _ _ _ _ _ _ _ _ _ _ _ _ _ _ _ _ _ _ _ _ _ _ _ _ _ _ _ _ _ _ _ _ _ _ _ _ _ _ _ _ HB.out
  | true =>
    obtain ⟨u1', u2'⟩ := gu.out (by first | rfl | trivial)
    clear gu
    by_cases he0 : ex = 0
    · have ge : (ex != 0) = false := by simpa using he0
      clear he0 S3
      have gN_0 := fun d os => cell_regrown (KN.out.c 0 _ rfl) d os
      have gN_1 := fun d os => cell_regrown (KN.out.c 1 _ rfl) d os
      have gN_2 := fun d os => cell_regrown (KN.out.c 2 _ rfl) d os
      have gN_3 := fun d os => cell_regrown (KN.out.c 3 _ rfl) d os
      have gE_0 := fun d os => cell_regrown (KE.out.c 0 _ rfl) d os
      have gE_1 := fun d os => cell_regrown (KE.out.c 1 _ rfl) d os
      have gE_2 := fun d os => cell_regrown (KE.out.c 2 _ rfl) d os
      have gE_3 := fun d os => cell_regrown (KE.out.c 3 _ rfl) d os
      have gE_4 := fun d os => cell_regrown (KE.out.c 4 _ rfl) d os
      have gE_5 := fun d os => cell_regrown (KE.out.c 5 _ rfl) d os
      have gC_5 := fun d os => cell_regrown (KC.out.c 5 _ rfl) d os
      have gC_6 := fun d os => cell_regrown (KC.out.c 6 _ rfl) d os
      have gC_7 := fun d os => cell_regrown (KC.out.c 7 _ rfl) d os
      have gC_8 := fun d os => cell_regrown (KC.out.c 8 _ rfl) d os
      have rv0 := Lib.hid (fun d os => Calls.regrown_of (IN.out (Go.Sort.grow (redrawn w d) os)))
      have rv1 := Lib.hid (fun d os => Calls.regrown_of (NX.out (Go.Sort.grow (redrawn w d) os)))
      have rv2 := Lib.hid (fun d os => Calls.regrown_of (NY.out (Go.Sort.grow (redrawn w d) os)))
      refine wp_region_quiet_below (by kernel_rfl) (by kernel_rfl) ?_
      generalize hact : Act.mk _ _ = act
      repeat (refine wpQuiet_step (fun K hK => ?_); subst hact; go_simp; (first | (generalize hact : Act.mk _ _ = act; refine hK act ?_; clear hK K) | (apply Exists.intro; refine ⟨fun _ => ?_, ?_⟩; (with_reducible exact rv0.out _ _); generalize hact : Act.mk _ _ = act; refine hK act ?_; clear hK K) | (apply Exists.intro; refine ⟨fun _ => ?_, ?_⟩; (with_reducible exact rv1.out _ _); generalize hact : Act.mk _ _ = act; refine hK act ?_; clear hK K) | (apply Exists.intro; refine ⟨fun _ => ?_, ?_⟩; (with_reducible exact rv2.out _ _); generalize hact : Act.mk _ _ = act; refine hK act ?_; clear hK K) | (rw [if_neg (by decide)]; go_simp; generalize hact : Act.mk _ _ = act; refine hK act ?_; clear hK K)))
      refine wpQuiet_nil ?_
      subst hact
      intro w601 hw601
      have hb601 : Below w.heap.size w w601 := by
        obtain ⟨⟨dq, osq⟩, hw2⟩ := hw601
        rw [hw2]; exact below_regrown _ dq osq
      clear hw601 gN_0 gN_1 gN_2 gN_3 gE_0 gE_1 gE_2 gE_3 gE_4 gE_5 gC_5 gC_6 gC_7 gC_8 rv0 rv1 rv2
      replace HB := hT HB hb601
      replace KC := hK KC hb601
      replace KN := hK KN hb601
      replace KE := hK KE hb601
      clear hb601
      exact HK.out _ _ _ _ _ _ _ _ _ _ _ _ _ _ _ _ _ _ _ _ _ _ _ _ _ _ _ _ _ _ _ _ _ _ _ _ _ _ _ _ _ _ _ _ _ _ _ _ _ _ HB.out
    · have ge : (ex != 0) = true := by simpa using he0
      have gf : (ex != fa) = false := by have := S3.out; simp; omega
      clear he0 S3
      have gN_0 := fun d os => cell_regrown (KN.out.c 0 _ rfl) d os
      have gN_1 := fun d os => cell_regrown (KN.out.c 1 _ rfl) d os
      have gN_2 := fun d os => cell_regrown (KN.out.c 2 _ rfl) d os
      have gN_3 := fun d os => cell_regrown (KN.out.c 3 _ rfl) d os
      have gE_0 := fun d os => cell_regrown (KE.out.c 0 _ rfl) d os
      have gE_1 := fun d os => cell_regrown (KE.out.c 1 _ rfl) d os
      have gE_2 := fun d os => cell_regrown (KE.out.c 2 _ rfl) d os
      have gE_3 := fun d os => cell_regrown (KE.out.c 3 _ rfl) d os
      have gE_4 := fun d os => cell_regrown (KE.out.c 4 _ rfl) d os
      have gE_5 := fun d os => cell_regrown (KE.out.c 5 _ rfl) d os
      have gC_5 := fun d os => cell_regrown (KC.out.c 5 _ rfl) d os
      have gC_6 := fun d os => cell_regrown (KC.out.c 6 _ rfl) d os
      have gC_7 := fun d os => cell_regrown (KC.out.c 7 _ rfl) d os
      have gC_8 := fun d os => cell_regrown (KC.out.c 8 _ rfl) d os
      have rv0 := Lib.hid (fun d os => Calls.regrown_of (IN.out (Go.Sort.grow (redrawn w d) os)))
      have rv1 := Lib.hid (fun d os => Calls.regrown_of (NX.out (Go.Sort.grow (redrawn w d) os)))
      have rv2 := Lib.hid (fun d os => Calls.regrown_of (NY.out (Go.Sort.grow (redrawn w d) os)))
      refine wp_region_quiet_below (by kernel_rfl) (by kernel_rfl) ?_
      generalize hact : Act.mk _ _ = act
      repeat (refine wpQuiet_step (fun K hK => ?_); subst hact; go_simp; (first | (generalize hact : Act.mk _ _ = act; refine hK act ?_; clear hK K) | (apply Exists.intro; refine ⟨fun _ => ?_, ?_⟩; (with_reducible exact rv0.out _ _); generalize hact : Act.mk _ _ = act; refine hK act ?_; clear hK K) | (apply Exists.intro; refine ⟨fun _ => ?_, ?_⟩; (with_reducible exact rv1.out _ _); generalize hact : Act.mk _ _ = act; refine hK act ?_; clear hK K) | (apply Exists.intro; refine ⟨fun _ => ?_, ?_⟩; (with_reducible exact rv2.out _ _); generalize hact : Act.mk _ _ = act; refine hK act ?_; clear hK K) | (rw [if_neg (by decide)]; go_simp; generalize hact : Act.mk _ _ = act; refine hK act ?_; clear hK K)))
      refine wpQuiet_nil ?_
      subst hact
      intro w601 hw601
      have hb601 : Below w.heap.size w w601 := by
        obtain ⟨⟨dq, osq⟩, hw2⟩ := hw601
        rw [hw2]; exact below_regrown _ dq osq
      clear hw601 gN_0 gN_1 gN_2 gN_3 gE_0 gE_1 gE_2 gE_3 gE_4 gE_5 gC_5 gC_6 gC_7 gC_8 rv0 rv1 rv2
      replace HB := hT HB hb601
      replace KC := hK KC hb601
      replace KN := hK KN hb601
      replace KE := hK KE hb601
      clear hb601
      exact HK.out _ _ _ _ _ _ _ _ _ _ _ _ _ _ _ _ _ _ _ _ _ _ _ _ _ _ _ _ _ _ _ _ _ _ _ _ _ _ _ _ _ _ _ _ _ _ _ _ _ _ HB.out
end Go.Proofs.YtidelghgjibndaaGreat.topUsable
