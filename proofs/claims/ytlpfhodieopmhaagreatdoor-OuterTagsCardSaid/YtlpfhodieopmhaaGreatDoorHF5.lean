/-
  Functions of the program made ready for the evaluator, and that they are.
-/
import Derived.Test.YtlpfhodieopmhaaGreatDoorHD
set_option linter.unusedVariables false
set_option linter.unusedSimpArgs false
set_option linter.unusedSectionVars false
set_option linter.unnecessarySimpa false
namespace Go.Proofs.YtlpfhodieopmhaaGreatDoor.Ae
open Go.Proofs
noncomputable def c336 : FC := (.sq (.rg [oi (.mv (.c (.int .i64 (.ofNat 0))))] [1, 2]) (.sq (.sq (.rg [oi (.mv x0), oi (.ll x0), oi (.mv (.c (.int .i64 (.ofNat 0))))] [0, 3, 4, 1]) (.bl [] (.lp [8, 0, 1, 7] [0, 1, 2, 3] (.sq (.sq (.rg [oi (.bi .lss x0 x3)] [0, 2, 3, 4, 1]) (.sq (.cd x0 .sk (.xt 0 [])) (.sq (.bl [0, 1, 7, 8] (.sq (.sq (.rg [oi (.mv x4), oi (.mv x0)] [0, 3, 4, 5, 6]) (.sq (.rg [oi (.mv x2), oi (.mv x2), oi (.mv x2), oi (.is 1 x1 x0), oi (.ld x0), oi (.cv x4 [x0])] [0, 6, 7, 8, 9, 10]) (.cd x0 (.sq (.rg [oi (.mv x1), oi (.mv x0)] [0]) (.rt [.t 0])) .sk))) (.se [2, 3, 4, 5]))) (.rg [oi (.bi .add x3 (.c (.int .i64 (.ofNat 1)))), oi (.mv x0)] [0, 2, 3, 4])))) (.se [0, 1, 2, 3]))))) (.sq (.rg [oi (.mv (.c (.int .i64 (.negSucc 0))))] [0]) (.rt [.t 0]))))
noncomputable def h336 : HT := .s (.r [0, 1] []) (.s (.s (.r [8, 0, 1, 7] []) (.b [] (.o [8, 0, 1, 7] (.s (.r [9, 0, 1, 7, 8] []) (.s (.d (.z) (.z)) (.s (.b [0, 1, 7, 8] (.s (.r [5, 0, 1, 7, 8] []) (.s (.r [16, 5, 0, 1, 7, 8] []) (.d (.s (.r [4] []) (.z)) (.z))))) (.r [8, 0, 1, 7] []))))))) (.s (.r [4] []) (.z)))
theorem C336 : cFn Tryz.prog cfg Tryz.f336 2 h336 = some c336 := by kernel_rfl
theorem T336 : FnQ Tryz.prog cfg 336 (2, c336) := ⟨Tryz.f336, h336, c336, by kernel_rfl, by kernel_rfl, C336, .inl rfl⟩
noncomputable def c339 : FC := (.sq (.rg [oi (.nw 70 51 x0), oi (.nw 70 51 (.c (.agg 51 z77)))] [0, 1, 3, 4, 5]) (.sq (.sq (.rg [oi (.la 51 x1), oi (.mv x3), oi (.cl 294 [x1, x0]), oi (.un .not x0), oi (.mv x0), .g 0 true 0 false (.la 51 x6), .g 0 true 1 false (.mv x9), .g 0 true 2 false (.cl 346 [x1, x0]), .g 0 true 3 false (.un .not x0), oi (.pick x4 (.c (.bool true)) x0)] [0, 10, 11, 12, 13, 14]) (.cd x0 (.sq (.rg [oi (.la 51 x2), .o 0 false (.st 51 x2 x0)] [2]) (.rt [.a 51 0])) .sk)) (.sq (.rg [oi (.mv x5), oi (.mm true [x0, (.c (.int .i64 (.negSucc 1099511627775)))]), oi (.mm false [x0, (.c (.int .i64 (.ofNat 1099511627776)))]), oi (.mv x0)] [5, 0, 7, 6, 8]) (.sq (.sq (.rg [oi (.mv x2), oi (.mv x5), oi (.eq 3 false false x1 x0)] [0, 3, 4, 5, 6, 7]) (.cd x0 (.sq (.rg [oi (.la 51 x4), oi (.mv x4), oi (.bi .add x0 (.c (.int .i64 (.ofNat 1)))), oi (.mv x5), oi (.cl 350 [x3, x1, x0]), .o 0 false (.st 51 x6 x0)] [6]) (.rt [.a 51 0])) .sk)) (.sq (.rg [oi (.mv x3), oi (.bi .add x0 (.c (.int .i64 (.ofNat 1)))), oi (.cl 331 [x6, x0])] [4, 7, 5, 6, 8]) (.sq (.rg [oi (.la 51 x1), oi (.cl 300 [x0]), .o 0 false (.st 51 x3 x0)] [2, 3, 4, 5, 6]) (.sq (.rg [oi (.mv x3), .o 1 true (.bi .add x0 (.c (.int .i64 (.ofNat 1)))), .o 2 true (.mv x6), .o 3 true (.bi .add x0 (.c (.int .i64 (.ofNat 1)))), .o 4 true (.mv x8), .o 5 true (.bi .add x0 (.c (.int .i64 (.ofNat 1)))), .o 6 true (.mv x9), .o 7 true (.bi .add x0 (.c (.int .i64 (.ofNat 1)))), .o 8 true (.mv x10), .o 9 true (.mv x11), .o 10 true (.un .neg x0), .o 11 true (.fa 2 x12), .o 12 true (.ia 7 7 x0 x10), .o 13 true (.ia 7 1 x0 x9), .o 15 true (.fa 2 x15), .o 16 true (.ia 7 7 x0 x9), .o 14 false (.st 1 x2 x7), .o 17 true (.ia 7 1 x0 x8), .o 18 false (.st 1 x0 x6)] [17, 18]) (.sq (.rg [oi (.la 51 x1), oi (.cl 300 [x0]), .o 0 false (.st 51 x2 x0)] [2]) (.rt [.a 51 0])))))))))
noncomputable def h339 : HT := .s (.r [8, 4, 1, 2, 3] []) (.s (.s (.r [18, 8, 4, 1, 2, 3] []) (.d (.s (.r [8] []) (.z)) (.z))) (.s (.r [8, 3, 1, 4, 2] []) (.s (.s (.r [25, 8, 3, 1, 4, 2] []) (.d (.s (.r [8] []) (.z)) (.z))) (.s (.r [8, 4, 3, 1, 2] []) (.s (.r [8, 4, 3, 1, 2] []) (.s (.r [8, 4] [(0, []), (1, []), (2, []), (3, []), (4, []), (5, []), (6, []), (7, []), (8, []), (9, []), (10, []), (11, []), (12, []), (13, []), (15, []), (16, []), (14, []), (17, []), (18, [])]) (.s (.r [8] []) (.z))))))))
theorem C339 : cFn Tryz.prog cfg Tryz.f339 4 h339 = some c339 := by kernel_rfl
theorem T339 : FnQ Tryz.prog cfg 339 (4, c339) := ⟨Tryz.f339, h339, c339, by kernel_rfl, by kernel_rfl, C339, .inl rfl⟩
noncomputable def c340 : FC := (.sq (.rg [oi (.nw 90 2 x0), oi (.nw 90 2 x2), oi (.nw 90 2 (.c (.agg 2 z17)))] [0, 2, 1]) (.sq (.sq (.rg [oi (.fa 0 x2), oi (.ld x0), oi (.fa 1 x4), oi (.ld x0), oi (.eq 3 false true x2 x0)] [0, 5, 6, 7]) (.cd x0 (.sq (.rg [oi (.la 2 x2), .o 0 false (.st 2 x2 x0)] [2]) (.rt [.a 2 0])) .sk)) (.sq (.sq (.rg [oi (.fa 0 x2), oi (.ld x0), oi (.fa 0 x5), oi (.ld x0), oi (.eq 3 false false x2 x0)] [0, 6, 7, 8]) (.cj x0 [4, 2, 3] (.sq (.rg [oi (.fa 0 x2), oi (.ld x0), oi (.bi .add x0 (.c (.int .i64 (.ofNat 1)))), oi (.fa 0 x5), .o 0 false (.st 1 x0 x1)] [5, 6, 7]) (.se [0, 1, 2])) (.sq .sk (.se [1, 2, 3])))) (.sq (.sq (.rg [oi (.fa 1 x1), oi (.ld x0), oi (.fa 0 x4), oi (.ld x0), oi (.eq 3 false false x2 x0)] [0, 5, 6]) (.cj x0 [4, 2] (.sq (.rg [oi (.fa 1 x2), oi (.ld x0), oi (.bi .sub x0 (.c (.int .i64 (.ofNat 1)))), oi (.fa 1 x5), .o 0 false (.st 1 x0 x1)] [5, 6]) (.se [0, 1])) (.sq .sk (.se [1, 2])))) (.sq (.rg [oi (.la 2 x1), oi (.cl 67 [x0]), .o 0 false (.st 2 x2 x0)] [2]) (.rt [.a 2 0]))))))
noncomputable def h340 : HT := .s (.r [4, 2, 3] []) (.s (.s (.r [9, 4, 2, 3] []) (.d (.s (.r [4] []) (.z)) (.z))) (.s (.s (.r [15, 4, 2, 3] []) (.c [4, 2, 3] (.r [4, 2, 3] []) (.z))) (.s (.s (.r [24, 4, 2] []) (.c [4, 2] (.r [4, 2] []) (.z))) (.s (.r [4] []) (.z)))))
theorem C340 : cFn Tryz.prog cfg Tryz.f340 2 h340 = some c340 := by kernel_rfl
theorem T340 : FnQ Tryz.prog cfg 340 (2, c340) := ⟨Tryz.f340, h340, c340, by kernel_rfl, by kernel_rfl, C340, .inl rfl⟩
noncomputable def c344 : FC := (.sq (.rg [oi (.nw 90 2 x0), oi (.nw 90 2 (.c (.agg 2 z17)))] [0, 3, 1]) (.sq (.rg [oi (.fa 0 x2), oi (.ld x0), oi (.mv x3), oi (.bi .sub x1 x0), oi (.fa 1 x6), oi (.ld x0), oi (.mv x7), oi (.bi .sub x1 x0), oi (.bd 2 z17 [(0, 1, x4), (1, 1, x0)]), .o 0 false (.st 2 x9 x0)] [9]) (.rt [.a 2 0])))
noncomputable def h344 : HT := .s (.r [4, 1, 2] []) (.s (.r [4] []) (.z))
theorem C344 : cFn Tryz.prog cfg Tryz.f344 2 h344 = some c344 := by kernel_rfl
theorem T344 : FnQ Tryz.prog cfg 344 (2, c344) := ⟨Tryz.f344, h344, c344, by kernel_rfl, by kernel_rfl, C344, .inl rfl⟩
noncomputable def c345 : FC := (.sq (.rg [oi (.nw 72 53 x0), oi (.nw 430 2 x2), oi (.nw 430 2 x4), oi (.nw 72 53 (.c (.agg 53 z76)))] [0, 3, 7, 2, 1]) (.sq (.sq (.rg [oi (.fa 0 x3), oi (.ld x0), oi (.fa 0 x6), oi (.ld x0), oi (.eq 3 false false x2 x0)] [0, 5, 6, 7, 8, 9]) (.cd x0 (.sq (.rg [oi (.la 53 x2), .o 0 false (.st 53 x2 x0)] [2]) (.rt [.a 53 0])) .sk)) (.sq (.rg [oi (.la 53 x2), oi (.fa 0 x5), oi (.ld x0), oi (.fa 0 x8), oi (.ld x0), oi (.fa 1 x10), oi (.ld x0), oi (.fa 1 x11), oi (.ld x0), oi (.bi .sub x2 x0), oi (.mv x13), oi (.bi .sub x1 x0), oi (.cl 351 [x11, x9, x7, x0]), .o 0 false (.st 53 x14 x0)] [14]) (.rt [.a 53 0]))))
noncomputable def h345 : HT := .s (.r [8, 4, 3, 5, 6] []) (.s (.s (.r [13, 8, 4, 3, 5, 6] []) (.d (.s (.r [8] []) (.z)) (.z))) (.s (.r [8] []) (.z)))
theorem C345 : cFn Tryz.prog cfg Tryz.f345 4 h345 = some c345 := by kernel_rfl
theorem T345 : FnQ Tryz.prog cfg 345 (4, c345) := ⟨Tryz.f345, h345, c345, by kernel_rfl, by kernel_rfl, C345, .inl rfl⟩
noncomputable def B346x1 (cl : Caller) (a23 : AV) (a26 : AV) (a28 : AV) (h : AH) : RO := gdJ a23 false (fun j29 => clR cl 294 [a26, a28] h fun a30 h => j29 a30 h) h fun a31 h => pickR a23 (.bool true) a31 fun a32 => some (a32, h)
noncomputable def B346x2 (cl : Caller) (a23 : AV) (a2 : AV) (a1 : AV) (h : AH) : RO := gdJ a23 false (fun j24 => ldAR 51 a2 h fun a25 => j24 a25 h) h fun a26 h => gdJ a23 false (fun j27 => j27 a1 h) h fun a28 h => B346x1 cl a23 a26 a28 h
noncomputable def B346x3 (cl : Caller) (a13 : AV) (a19 : AV) (a2 : AV) (a1 : AV) (h : AH) : RO := gdJ a13 true (fun j20 => unP .not a19 fun a21 => j20 a21 h) h fun a22 h => pickR a13 a22 (.bool false) fun a23 => B346x2 cl a23 a2 a1 h
noncomputable def B346x4 (cl : Caller) (a13 : AV) (a2 : AV) (a1 : AV) (h : AH) : RO := gdJ a13 true (fun j14 => faR 1 a2 fun a15 => j14 a15 h) h fun a16 h => gdJ a13 true (fun j17 => ld1R a16 h fun a18 => j17 a18 h) h fun a19 h => B346x3 cl a13 a19 a2 a1 h
noncomputable def B346x5 (cl : Caller) (b3 : Bool) (a9 : AV) (a2 : AV) (a1 : AV) (h : AH) : RO := gdJ (.bool b3) true (fun j10 => clR cl 117 [a9] h fun a11 h => j10 a11 h) h fun a12 h => pickR (.bool b3) a12 (.bool false) fun a13 => B346x4 cl a13 a2 a1 h
noncomputable def B346x6 (cl : Caller) (b3 : Bool) (a2 : AV) (a1 : AV) (h : AH) : RO := gdJ (.bool b3) true (fun j4 => faR 0 a2 fun a5 => j4 a5 h) h fun a6 h => gdJ (.bool b3) true (fun j7 => ld1R a6 h fun a8 => j7 a8 h) h fun a9 h => B346x5 cl b3 a9 a2 a1 h
noncomputable def r346x0 : FC := (.sq (.rg [oi (.nw 70 51 x0), oi (.mv (.c (.bool false)))] [3, 1]) (.sq (.rg [oi (.mv x0), oi (.eq 3 true false x0 (.c (.int .i64 (.negSucc 0)))), oi (.mv x0), .g 0 true 0 true (.fa 0 x4), .g 0 true 1 true (.ld x0), .g 0 true 2 true (.cl 117 [x0]), oi (.pick x3 x0 (.c (.bool false))), oi (.mv x0), .g 0 true 0 true (.fa 1 x9), .g 0 true 1 true (.ld x0), .g 0 true 2 true (.un .not x0), oi (.pick x3 x0 (.c (.bool false))), oi (.mv x0), .g 0 true 0 false (.la 51 x14), .g 0 true 1 false (.mv x14), .g 0 true 2 false (.cl 294 [x1, x0]), oi (.pick x3 (.c (.bool true)) x0), oi (.mv x0)] [0]) (.rt [.t 0])))
noncomputable def g346x0 (cl : Caller) (_ : Nat) (q : List AV) (Kx : List KL) (K : KL) (h : AH) : RO := un1 q fun a0 q => un1 q fun a1 q => newR 70 51 a0 h fun a2 h => eqOR Tryz.prog 3 true a1 (.int .i64 (.negSucc 0)) fun b3 => B346x6 cl b3 a2 a1 h
theorem S346x0 : SL Tryz.prog 5 g346x0 r346x0 2 := s2' (by intros; kernel_rfl)
noncomputable def c346 : FC := r346x0
noncomputable def d346 : FC := (.sr g346x0)
theorem Z346 : Sh Tryz.prog 5 c346 d346 2 [] none := (.sr rfl rfl S346x0)
noncomputable def h346 : HT := .s (.r [1, 2] []) (.s (.r [4] []) (.z))
theorem C346 : cFn Tryz.prog cfg Tryz.f346 2 h346 = some c346 := by kernel_rfl
theorem T346 : FnQ Tryz.prog cfg 346 (2, d346) := ⟨Tryz.f346, h346, c346, by kernel_rfl, by kernel_rfl, C346, .inr Z346⟩
noncomputable def r348x0 : FC := (.rg [oi (.mv (.c .nils))] [1])
noncomputable def g348x0 (cl : Caller) (_ : Nat) (q : List AV) (Kx : List KL) (K : KL) (h : AH) : RO := un1 q fun a0 q => K [a0] h
theorem S348x0 : SL Tryz.prog 5 g348x0 r348x0 1 := s1' (by intros; kernel_rfl)
noncomputable def r348x1 : FC := (.rg [oi (.mv (.c .nils))] [0, 1])
noncomputable def g348x1 (cl : Caller) (_ : Nat) (q : List AV) (Kx : List KL) (K : KL) (h : AH) : RO := un1 q fun a1 q => K [.nils, a1] h
theorem S348x1 : SL Tryz.prog 5 g348x1 r348x1 1 := s1' (by intros; kernel_rfl)
noncomputable def r348x2 : FC := (.rg [oi (.mv (.c (.int .i64 (.ofNat 0))))] [0, 1, 2])
noncomputable def g348x2 (cl : Caller) (_ : Nat) (q : List AV) (Kx : List KL) (K : KL) (h : AH) : RO := un1 q fun a2 q => un1 q fun a3 q => K [(.int .i64 (.ofNat 0)), a2, a3] h
theorem S348x2 : SL Tryz.prog 5 g348x2 r348x2 2 := s2' (by intros; kernel_rfl)
noncomputable def r348x3 : FC := (.rg [oi (.bi .lss x0 (.c (.int .i64 (.ofNat 8))))] [0, 3, 1, 2])
noncomputable def g348x3 (cl : Caller) (_ : Nat) (q : List AV) (Kx : List KL) (K : KL) (h : AH) : RO := un1 q fun a4 q => un1 q fun a5 q => un1 q fun a6 q => lssP a4 (.int .i64 (.ofNat 8)) fun a7 => K [a7, a6, a4, a5] h
theorem S348x3 : SL Tryz.prog 5 g348x3 r348x3 3 := s3' (by intros; kernel_rfl)
noncomputable def r348x4 : FC := (.cd x0 .sk (.xt 0 [3]))
noncomputable def g348x4 (cl : Caller) (_ : Nat) (q : List AV) (Kx : List KL) (K : KL) (h : AH) : RO := un1 q fun a8 q => un1 q fun a9 q => un1 q fun a10 q => un1 q fun a11 q => iteR a8 (K [a8, a9, a10, a11] h) (lkK Kx 0 [a11] h)
theorem S348x4 : SL Tryz.prog 5 g348x4 r348x4 4 := s4' (by intros; kernel_rfl)
noncomputable def r348x5 : FC := (.rg [oi (.mv x2), oi (.mv x0)] [3, 4, 0, 5])
noncomputable def g348x5 (cl : Caller) (_ : Nat) (q : List AV) (Kx : List KL) (K : KL) (h : AH) : RO := un1 q fun a12 q => un1 q fun a13 q => un1 q fun a14 q => un1 q fun a15 q => K [a13, a14, a14, a15] h
theorem S348x5 : SL Tryz.prog 5 g348x5 r348x5 4 := s4' (by intros; kernel_rfl)
noncomputable def r348x6 : FC := (.rg [oi (.mv x0), oi (.mv x3), oi (.cl 66 [x1, x0])] [0, 3, 4, 5, 6])
noncomputable def g348x6 (cl : Caller) (_ : Nat) (q : List AV) (Kx : List KL) (K : KL) (h : AH) : RO := un1 q fun a16 q => un1 q fun a17 q => un1 q fun a18 q => un1 q fun a19 q => clR cl 66 [a16, a18] h fun a20 h => K [a20, a16, a17, a18, a19] h
theorem S348x6 : SL Tryz.prog 5 g348x6 r348x6 4 := s4' (by intros; kernel_rfl)
noncomputable def r348x7 : FC := (.sq (.rg [oi (.mv x4), oi (.mv x4), oi (.bs 3 1 1 z10 [(0, x0)]), oi (.ap 3 1 8 x2 x0), oi (.mv x0)] [0, 6, 7]) (.se [0, 1, 2]))
noncomputable def g348x7 (cl : Caller) (_ : Nat) (q : List AV) (Kx : List KL) (K : KL) (h : AH) : RO := un1 q fun a21 q => un1 q fun a22 q => un1 q fun a23 q => un1 q fun a24 q => un1 q fun a25 q => bsP 3 1 1 z10 [(0, a24)] h fun a26 h => apP 3 1 8 a25 a26 h fun a27 h => K [a27, a22, a23] h
theorem S348x7 : SL Tryz.prog 5 g348x7 r348x7 5 := s5' (by intros; kernel_rfl)
noncomputable def r348x8 : FC := (.rg [oi (.bi .add x2 (.c (.int .i64 (.ofNat 1)))), oi (.mv x0)] [0, 2, 3])
noncomputable def g348x8 (cl : Caller) (_ : Nat) (q : List AV) (Kx : List KL) (K : KL) (h : AH) : RO := un1 q fun a28 q => un1 q fun a29 q => un1 q fun a30 q => addP a30 (.int .i64 (.ofNat 1)) fun a31 => K [a31, a28, a29] h
theorem S348x8 : SL Tryz.prog 5 g348x8 r348x8 3 := s3' (by intros; kernel_rfl)
noncomputable def r348x9 : FC := (.sq (.rg [oi (.mv x0), oi (.mv x0)] [0]) (.rt [.t 0]))
noncomputable def g348x9 (cl : Caller) (_ : Nat) (q : List AV) (Kx : List KL) (K : KL) (h : AH) : RO := un1 q fun a32 q => some (a32, h)
theorem S348x9 : SL Tryz.prog 5 g348x9 r348x9 1 := s1' (by intros; kernel_rfl)
noncomputable def c348 : FC := (.sq r348x0 (.sq r348x1 (.sq (.sq r348x2 (.bl [3] (.lp [5, 3, 0] [0, 1, 2] (.sq (.sq r348x3 (.sq r348x4 (.sq (.bl [3, 0, 5] (.sq (.sq r348x5 (.sq r348x6 (.cj x0 [3, 0, 5] r348x7 (.sq .sk (.se [4, 1, 2]))))) (.se [0, 1, 2]))) r348x8))) (.se [0, 1, 2]))))) r348x9)))
noncomputable def d348 : FC := (.sq (.sr g348x0) (.sq (.sr g348x1) (.sq (.sq (.sr g348x2) (.bl [3] (.lp [5, 3, 0] [0, 1, 2] (.sq (.sq (.sr g348x3) (.sq (.sr g348x4) (.sq (.bl [3, 0, 5] (.sq (.sq (.sr g348x5) (.sq (.sr g348x6) (.cj x0 [3, 0, 5] (.sr g348x7) (.sq .sk (.se [4, 1, 2]))))) (.se [0, 1, 2]))) (.sr g348x8)))) (.se [0, 1, 2]))))) (.sr g348x9))))
theorem Z348 : Sh Tryz.prog 5 c348 d348 1 [] none := (.sq (.sr rfl rfl S348x0) (.sq (.sr rfl rfl S348x1) (.sq (.sq (.sr rfl rfl S348x2) (.bl (.lp rfl (.sq (.sq (.sr rfl rfl S348x3) (.sq (.sr rfl rfl S348x4) (.sq (.bl (.sq (.sq (.sr rfl rfl S348x5) (.sq (.sr rfl rfl S348x6) (.cj (.sr rfl rfl S348x7) (.sq (.rf rfl rfl) (.rf rfl rfl)) rfl rfl))) (.rf rfl rfl)) rfl) (.sr rfl rfl S348x8)))) (.rf rfl rfl)) rfl) rfl)) (.sr rfl rfl S348x9))))
noncomputable def h348 : HT := .s (.r [0] []) (.s (.r [3, 0] []) (.s (.s (.r [5, 3, 0] []) (.b [3] (.o [5, 3, 0] (.s (.r [6, 0, 5, 3] []) (.s (.d (.z) (.z)) (.s (.b [3, 0, 5] (.s (.r [0, 5, 4, 3] []) (.s (.r [10, 0, 5, 4, 3] []) (.c [3, 0, 5] (.r [3, 0, 5] []) (.z))))) (.r [5, 3, 0] []))))))) (.s (.r [2] []) (.z))))
theorem C348 : cFn Tryz.prog cfg Tryz.f348 1 h348 = some c348 := by kernel_rfl
theorem T348 : FnQ Tryz.prog cfg 348 (1, d348) := ⟨Tryz.f348, h348, c348, by kernel_rfl, by kernel_rfl, C348, .inr Z348⟩
noncomputable def c349 : FC := (.sq (.rg [oi (.nw 30 6 x0), oi (.mv (.c (.int .i64 (.ofNat 0)))), oi (.mv (.c (.bool false)))] [5, 4, 2]) (.sq (.sq (.rg [oi (.mv x1), oi (.fa 5 x3), oi (.ld x0), oi (.ll x0), oi (.bi .geq x3 x0), oi (.mv x0), .g 0 true 0 false (.mv x6), .g 0 true 1 false (.bi .lss x0 (.c (.int .i64 (.ofNat 0)))), oi (.pick x2 (.c (.bool true)) x0), oi (.mv x0), .g 0 true 0 false (.mv x10), .g 0 true 1 false (.fa 5 x13), .g 0 true 2 false (.ld x0), .g 0 true 3 false (.mv x14), .g 0 true 4 false (.is 1 x1 x0), .g 0 true 5 false (.ld x0), .g 0 true 6 false (.ll x0), .g 0 true 7 false (.bi .geq x6 x0), oi (.pick x8 (.c (.bool true)) x0)] [0, 19, 20, 21]) (.cd x0 (.sq (.rg [oi (.mv (.c (.int .i64 (.ofNat 0)))), oi (.mv (.c (.bool false)))] [1, 0]) (.rt [.t 0, .t 1])) .sk)) (.sq (.rg [oi (.fa 5 x3), oi (.ld x0), oi (.mv x4), oi (.is 1 x1 x0), oi (.ld x0), oi (.mv x6), oi (.is 1 x1 x0), oi (.ld x0), oi (.mv x0)] [0]) (.sq (.rg [oi (.mv x0), oi (.mv x1), oi (.bi .geq x0 (.c (.int .i64 (.ofNat 0)))), oi (.mv x0), .g 0 true 0 true (.mv x4), .g 0 true 1 true (.bi .lss x0 (.c (.int .i64 (.ofNat 8)))), oi (.pick x2 x0 (.c (.bool false))), oi (.mv x6), oi (.mv x1)] [1, 0]) (.rt [.t 0, .t 1])))))
noncomputable def h349 : HT := .s (.r [2, 1, 3] []) (.s (.s (.r [27, 2, 1, 3] []) (.d (.s (.r [6, 7] []) (.z)) (.z))) (.s (.r [8] []) (.s (.r [6, 7] []) (.z))))
theorem C349 : cFn Tryz.prog cfg Tryz.f349 3 h349 = some c349 := by kernel_rfl
theorem T349 : FnQ Tryz.prog cfg 349 (3, c349) := ⟨Tryz.f349, h349, c349, by kernel_rfl, by kernel_rfl, C349, .inl rfl⟩
noncomputable def c351 : FC := (.sq (.rg [oi (.nw 72 53 x0), oi (.nw 72 53 (.c (.agg 53 z76)))] [0, 5, 4, 3, 1]) (.sq (.rg [oi (.fa 2 x4), oi (.la 51 x0), oi (.mv x5), oi (.mv x5), oi (.mv x5), oi (.cl 330 [x3, x2, x1, x0]), oi (.cl 242 [x0]), .o 0 false (.st 53 x7 x0)] [7]) (.rt [.a 53 0])))
noncomputable def h351 : HT := .s (.r [8, 3, 2, 1, 4] []) (.s (.r [8] []) (.z))
theorem C351 : cFn Tryz.prog cfg Tryz.f351 4 h351 = some c351 := by kernel_rfl
theorem T351 : FnQ Tryz.prog cfg 351 (4, c351) := ⟨Tryz.f351, h351, c351, by kernel_rfl, by kernel_rfl, C351, .inl rfl⟩
end Go.Proofs.YtlpfhodieopmhaaGreatDoor.Ae

