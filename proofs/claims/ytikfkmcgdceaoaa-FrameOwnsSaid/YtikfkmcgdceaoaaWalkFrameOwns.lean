import Derived.Test.YtikfkmcgdceaoaaFrd
set_option linter.unusedVariables false
set_option linter.unusedSimpArgs false
namespace Go.Proofs.AL
open Go.RowKit
theorem xor8 {a b : Nat} (ha : a < 256) (hb : b < 256) : bitsOp .xor .u8 (a : Int) (b : Int) = ((a ^^^ b : Nat) : Int) := by
  have h : a ^^^ b < 256 := Nat.xor_lt_two_pow (n := 8) ha hb
  change IntKind.u8.wrap (((BitVec.ofInt 8 _ ^^^ BitVec.ofInt 8 _).toNat : Nat) : Int) = _
  rw [IntKind.wrap_u8, BitVec.toNat_xor, BitVec.toNat_ofInt, BitVec.toNat_ofInt]
  have e1 : ((a : Int) % ((2 ^ 8 : Nat) : Int)).toNat = a := by omega
  have e2 : ((b : Int) % ((2 ^ 8 : Nat) : Int)).toNat = b := by omega
  rw [e1, e2]
  omega
theorem xorr {a y : Int} (ha : 0 ≤ a ∧ a ≤ 255) (hy : 0 ≤ y ∧ y ≤ 255) : 0 ≤ bitsOp .xor .u8 a y ∧ bitsOp .xor .u8 a y ≤ 255 := by
  obtain ⟨a, rfl⟩ := Int.eq_ofNat_of_zero_le ha.1
  obtain ⟨y, rfl⟩ := Int.eq_ofNat_of_zero_le hy.1
  rw [xor8 (by omega) (by omega)]
  have h : a ^^^ y < 256 := Nat.xor_lt_two_pow (n := 8) (by omega) (by omega)
  omega
theorem FrameOwnsV {lo_b B_b : Nat} {A_b : Option Addr} {n_b c_b : Nat} {b : List Int} {by_ : Int} {w : World}  (h_b : Vw tU8 w lo_b B_b A_b n_b c_b b) (b_by_ : 0 ≤ by_ ∧ by_ ≤ 255) :
    Calls Try.prog 4 #[.slice A_b n_b c_b, .int .u8 by_] w fun e w' => ∃ (x0 : Bool), e = .returned (.bool x0) ∧ x0 = (true) ∧ Ext w w' := by
  have hE := Ext.refl w
  replace h_b := h_b.fit
  have hn_b := h_b.ln
  have hc_b := h_b.cap
  have hm_b := h_b.max
  simp only [maxLen] at hm_b
  refine calls_of (l := [.slice A_b n_b c_b, .int .u8 by_]) (N := 77) Try.func4 rfl rfl rfl ?_
  refine C_seq (C_region (RL_q rfl (Yd_assign rfl) (RL_nil (X_then (C_seq (C_region (RL_q rfl (Yd_move rfl) (RL_l rfl (Ld_call Try.func21 rfl (by kernel_rfl) rfl (FillV h_b ⟨by first | omega | (dsimp only; omega), by first | omega | (dsimp only; omega)⟩) ?_)))))))))
  rintro e W1 ⟨A12, n12, c12, rfl, hF12, hfl12, he1⟩
  refine ⟨_, rfl, ?_⟩
  replace hE := Ext.trans hE he1
  replace h_b := h_b.ext he1
  have hs1 := he1.size
  have hn12 := hF12.ln
  try simp only [List.length_append, List.length_cons, List.length_nil, List.length_set, List.length_take, List.length_drop, List.length_replicate, List.length_map, Nat.zero_add, Nat.add_zero] at hn12
  have hc12 := hF12.cap
  rw [fill_len] at hn12
  have hn12' : n12 = 32 := hn12.symm
  refine RL_q rfl (Yd_assign rfl) (RL_nil (X_then (C_seq (C_region (RL_q rfl (Yd_move rfl) (RL_l rfl (Ld_call Try.func22 rfl (by kernel_rfl) rfl (FewV hF12.vw ⟨by first | omega | (dsimp only; omega), by first | omega | (dsimp only; omega)⟩) ?_)))))))
  rintro e W2 ⟨A14, n14, c14, rfl, hF14, hle14, he2⟩
  refine ⟨_, rfl, ?_⟩
  replace hE := Ext.trans hE he2
  replace h_b := h_b.ext he2
  replace hF12 := hF12.ext he2
  have hs2 := he2.size
  have hn14 := hF14.ln
  try simp only [List.length_append, List.length_cons, List.length_nil, List.length_set, List.length_take, List.length_drop, List.length_replicate, List.length_map, Nat.zero_add, Nat.add_zero] at hn14
  have hc14 := hF14.cap
  try rw [hle14.2.2.1 (by omega)] at hF14 hn14
  have hn14' : n14 = 32 := by have := hF14.ln; rw [fill_len] at this; exact this.symm
  refine RL_q rfl (Yd_assign rfl) (RL_nil (X_then (C_seq (C_region (RL_q rfl (Yd_build Try.bld28 rfl rfl) (RL_l rfl (Ld_box rfl ?_)))))))
  have hg_16 := hE.size
  intro W3 he3 hz3 hB16
  replace hE := Ext.trans hE he3
  replace h_b := h_b.ext he3
  replace hF12 := hF12.ext he3
  replace hF14 := hF14.ext he3
  replace hB16 : Blk W3 W2.heap.size 28 (frC emptyF) := hB16
  have okhB16 := emptyF_ok
  refine RL_q rfl (Yd_assign rfl) (RL_nil (X_then (C_seq (C_seq (C_region (RL_q rfl (Yd_move rfl) (RL_q rfl (Yd_move rfl) (RL_l rfl (Ld_call Try.func17 rfl (by kernel_rfl) rfl (LoadV (f := emptyF) hB16 okhB16 ⟨by first | omega | (dsimp only; omega), by first | omega | (dsimp only; omega)⟩ hF14.vw) ?_)))))))))
  rintro e W4 ⟨rfl, hB16n, hk4⟩
  refine ⟨_, rfl, ?_⟩
  have hs4 := hk4.size
  replace hE := Ext.kp hE hk4 (fun k hk => by first | omega | (have hk := hk; dsimp only at hk; omega))
  replace h_b := h_b.kp hk4 (fun k hk => by first | omega | (have hk := hk; dsimp only at hk; omega))
  replace hF12 := hF12.kp hk4 (fun k hk => by first | omega | (have hk := hk; dsimp only at hk; omega))
  replace hF14 := hF14.kp hk4 (fun k hk => by first | omega | (have hk := hk; dsimp only at hk; omega))
  replace hB16 := hB16n
  replace okhB16 : FOk ((loadF emptyF 0 (fill b (32 : Int).toNat)).2) := loadF_ok okhB16 hF14.vw.byt
  rw [loadF_32 (by simp)] at hB16 okhB16
  refine RL_q rfl (Yd_neq rfl rfl) (RL_q rfl (Yd_move rfl) (?_))
  refine RL_is (d := 21) (b' := false) rfl (by rw [loadF_32 (by simp)]; rfl) ?_
  refine RL_gq rfl rfl rfl (Yd_move rfl) (RL_gq rfl rfl rfl (Yd_nil rfl) (RL_gq rfl rfl rfl (Yd_fld (off := 0) Try.underlying28 (by kernel_rfl) rfl) (RL_gl rfl rfl rfl (Ld_call Try.func16 rfl (by kernel_rfl) rfl (PinV (f := (⟨true, false, false, 0, 0, (fill b (32 : Int).toNat)⟩ : Fr)) hB16 okhB16) ?_))))
  rintro e W5 ⟨rfl, hB16n, hk5⟩
  refine ⟨_, rfl, ?_⟩
  have hs5 := hk5.size
  replace hE := Ext.kp hE hk5 (fun k hk => by first | omega | (have hk := hk; dsimp only at hk; omega))
  replace h_b := h_b.kp hk5 (fun k hk => by first | omega | (have hk := hk; dsimp only at hk; omega))
  replace hF12 := hF12.kp hk5 (fun k hk => by first | omega | (have hk := hk; dsimp only at hk; omega))
  replace hF14 := hF14.kp hk5 (fun k hk => by first | omega | (have hk := hk; dsimp only at hk; omega))
  replace hB16 := hB16n
  replace okhB16 : FOk ((pinF (⟨true, false, false, 0, 0, (fill b (32 : Int).toNat)⟩ : Fr)).2) := pinF_ok okhB16
  rw [pinF_y (by omega)] at hB16 okhB16
  refine RL_gq rfl rfl rfl (Yd_neq rfl rfl) (RL_q rfl (Yd_pickF rfl rfl) (RL_nil (X_then (?_))))
  refine C_no rfl (by rw [pinF_y (by omega)]; rfl) (C_skip (X_then (C_seq (C_region (RL_q rfl (Yd_move rfl) (RL_q rfl (Yd_move rfl) (?_)))))))
  obtain ⟨gA14, rfl, hglA14, hghA14⟩ := Ow.at_ (i := 5) hF14 (by omega)
  refine RL_q rfl (Yd_idxL Try.underlying32 (sz := 1) (by kernel_rfl) rfl rfl (by omega) (by omega)) (?_)
  obtain ⟨x1, hx1, gx1⟩ := Vw.elem (i := 5) hF14.vw (by omega)
  replace gx1 : 0 ≤ x1 ∧ x1 ≤ 255 := gx1
  refine RL_q rfl (Yd_load Try.underlying5 rfl rfl (Vw.lq1L hF14.vw hx1 rfl rfl)) (RL_q rfl (Yd_move rfl) (RL_q rfl (Yd_xor rfl rfl rfl) (?_)))
  have hxr33 := xorr (a := x1) (y := by_) ⟨by omega, by omega⟩ ⟨by omega, by omega⟩
  refine RL_q rfl (Yd_idxL Try.underlying32 (sz := 1) (by kernel_rfl) rfl rfl (by omega) (by omega)) (RL_l0 (Ld_putO (T := tU8) (a := (bitsOp .xor .u8 x1 by_)) (by kernel_rfl) rfl rfl hF14 (i := 5) (by omega) rfl rfl (by omega) ⟨by omega, by omega⟩ ?_))
  intro W6 hF14' hu6
  have hk6 := Kp.ofb hu6
  have hs6 := hk6.size
  replace hE := Ext.kp hE hk6 (fun k hk => by first | omega | (have hk := hk; dsimp only at hk; omega))
  replace h_b := h_b.kp hk6 (fun k hk => by first | omega | (have hk := hk; dsimp only at hk; omega))
  replace hF12 := hF12.kp hk6 (fun k hk => by first | omega | (have hk := hk; dsimp only at hk; omega))
  replace hB16 := hB16.kp hk6 (fun hk => by first | omega | (have hk := hk; dsimp only at hk; omega))
  replace hF14 := hF14'
  have hnhF14 := hF14.ln
  refine RL_nil (X_then (C_seq (C_region (RL_q rfl (Yd_move rfl) (RL_l rfl (Ld_call Try.func23 rfl (by kernel_rfl) rfl (BytesV (f := (⟨true, false, true, (0 + 1), 0, (fill b (32 : Int).toNat)⟩ : Fr)) hB16 okhB16) ?_))))))
  rintro e W7 ⟨A36, n36, c36, rfl, hF36, he7⟩
  refine ⟨_, rfl, ?_⟩
  replace hE := Ext.trans hE he7
  replace h_b := h_b.ext he7
  replace hF12 := hF12.ext he7
  replace hF14 := hF14.ext he7
  replace hB16 := hB16.ext he7
  have hs7 := he7.size
  have hn36 := hF36.ln
  have hc36 := hF36.cap
  replace hF36 := hF36.cast (show _ = (fill b (32 : Int).toNat) from rfl)
  have hn36' : n36 = 32 := by have := hF36.ln; rw [fill_len] at this; exact this.symm
  refine RL_q rfl (Yd_assign rfl) (RL_nil (X_then (C_seq (C_region (RL_q rfl (Yd_move rfl) (RL_l rfl (Ld_call Try.func24 rfl (by kernel_rfl) rfl (GetV (f := (⟨true, false, true, (0 + 1), 0, (fill b (32 : Int).toNat)⟩ : Fr)) hB16 okhB16 ⟨by first | omega | (dsimp only; omega), by first | omega | (dsimp only; omega)⟩ ⟨by first | omega | (dsimp only; omega), by first | omega | (dsimp only; omega)⟩) ?_)))))))
  rintro e W8 ⟨A39, n39, c39, rfl, hF39, hB16n, hk8⟩
  refine ⟨_, rfl, ?_⟩
  have hs8 := hk8.size
  replace hE := Ext.kp hE hk8 (fun k hk => by first | omega | (have hk := hk; dsimp only at hk; omega))
  replace h_b := h_b.kp hk8 (fun k hk => by first | omega | (have hk := hk; dsimp only at hk; omega))
  replace hF12 := hF12.kp hk8 (fun k hk => by first | omega | (have hk := hk; dsimp only at hk; omega))
  replace hF14 := hF14.kp hk8 (fun k hk => by first | omega | (have hk := hk; dsimp only at hk; omega))
  replace hF36 := hF36.kp hk8 (fun k hk => by first | omega | (have hk := hk; dsimp only at hk; omega))
  replace hB16 := hB16n
  have hn39 := hF39.ln
  have hc39 := hF39.cap
  replace okhB16 : FOk ((getF (⟨true, false, true, (0 + 1), 0, (fill b (32 : Int).toNat)⟩ : Fr) 0 32).2.2) := getF_ok okhB16
  rw [getF_y (by omega) (by decide : fitsE 32 0 32 = 0)] at hF39
  have hn39' : n39 = 32 := by have h := hF39.ln; rw [pGet_ok (m := 32) (by simp) (by decide)] at h; simp at h; omega
  rw [getF_y (by omega) (by decide : fitsE 32 0 32 = 0)] at hB16 okhB16
  refine RL_q rfl (Yd_move rfl) (RL_q rfl (Yd_extract rfl rfl) (RL_q rfl (Yd_extract rfl rfl) (RL_q rfl (Yd_assign rfl) (RL_q rfl (Yd_assign rfl) (RL_nil (X_then (C_seq (C_seq (C_region (RL_q rfl (Yd_move rfl) (RL_q rfl (Yd_len Try.underlying32 rfl) (RL_q rfl (Yd_neq rfl rfl) (RL_q rfl (Yd_move rfl) (?_))))))))))))))
  refine RL_is (d := 45) (b' := false) rfl (by simp; omega) ?_
  refine RL_gq rfl rfl rfl (Yd_move rfl) (RL_gq rfl rfl rfl (Yd_len Try.underlying32 rfl) (RL_gq rfl rfl rfl (Yd_neq rfl rfl) (RL_q rfl (Yd_pickF rfl rfl) (RL_q rfl (Yd_move rfl) (?_)))))
  refine RL_is (d := 50) (b' := false) rfl (by simp; omega) ?_
  refine RL_gq rfl rfl rfl (Yd_move rfl) (RL_gq rfl rfl rfl (Yd_neq rfl rfl) (RL_q rfl (Yd_pickF rfl rfl) (RL_nil (X_then (?_)))))
  refine C_no rfl (by rw [getF_y (by omega) (by decide : fitsE 32 0 32 = 0)]; rfl) (C_skip (X_then (C_seq (C_region (RL_q rfl (Yd_move rfl) (RL_q rfl (Yd_move rfl) (?_)))))))
  obtain ⟨gA36, rfl, hglA36, hghA36⟩ := Ow.at_ (i := 6) hF36 (by omega)
  refine RL_q rfl (Yd_idxL Try.underlying32 (sz := 1) (by kernel_rfl) rfl rfl (by omega) (by omega)) (?_)
  obtain ⟨x2, hx2, gx2⟩ := Vw.elem (i := 6) hF36.vw (by omega)
  replace gx2 : 0 ≤ x2 ∧ x2 ≤ 255 := gx2
  refine RL_q rfl (Yd_load Try.underlying5 rfl rfl (Vw.lq1L hF36.vw hx2 rfl rfl)) (RL_q rfl (Yd_move rfl) (RL_q rfl (Yd_xor rfl rfl rfl) (?_)))
  have hxr59 := xorr (a := x2) (y := by_) ⟨by omega, by omega⟩ ⟨by omega, by omega⟩
  refine RL_q rfl (Yd_idxL Try.underlying32 (sz := 1) (by kernel_rfl) rfl rfl (by omega) (by omega)) (RL_l0 (Ld_putO (T := tU8) (a := (bitsOp .xor .u8 x2 by_)) (by kernel_rfl) rfl rfl hF36 (i := 6) (by omega) rfl rfl (by omega) ⟨by omega, by omega⟩ ?_))
  intro W9 hF36' hu9
  have hk9 := Kp.ofb hu9
  have hs9 := hk9.size
  replace hE := Ext.kp hE hk9 (fun k hk => by first | omega | (have hk := hk; dsimp only at hk; omega))
  replace h_b := h_b.kp hk9 (fun k hk => by first | omega | (have hk := hk; dsimp only at hk; omega))
  replace hF12 := hF12.kp hk9 (fun k hk => by first | omega | (have hk := hk; dsimp only at hk; omega))
  replace hF14 := hF14.kp hk9 (fun k hk => by first | omega | (have hk := hk; dsimp only at hk; omega))
  replace hB16 := hB16.kp hk9 (fun hk => by first | omega | (have hk := hk; dsimp only at hk; omega))
  replace hF39 := hF39.kp hk9 (fun k hk => by first | omega | (have hk := hk; dsimp only at hk; omega))
  replace hF36 := hF36'
  have hnhF36 := hF36.ln
  refine RL_nil (X_then (C_seq (C_region (RL_q rfl (Yd_move rfl) (RL_q rfl (Yd_move rfl) (?_))))))
  obtain ⟨gA39, rfl, hglA39, hghA39⟩ := Ow.at_ (i := 7) hF39 (by omega)
  refine RL_q rfl (Yd_idxL Try.underlying32 (sz := 1) (by kernel_rfl) rfl rfl (by omega) (by omega)) (?_)
  obtain ⟨x3, hx3, gx3⟩ := Vw.elem (i := 7) hF39.vw (by omega)
  replace gx3 : 0 ≤ x3 ∧ x3 ≤ 255 := gx3
  refine RL_q rfl (Yd_load Try.underlying5 rfl rfl (Vw.lq1L hF39.vw hx3 rfl rfl)) (RL_q rfl (Yd_move rfl) (RL_q rfl (Yd_xor rfl rfl rfl) (?_)))
  have hxr66 := xorr (a := x3) (y := by_) ⟨by omega, by omega⟩ ⟨by omega, by omega⟩
  refine RL_q rfl (Yd_idxL Try.underlying32 (sz := 1) (by kernel_rfl) rfl rfl (by omega) (by omega)) (RL_l0 (Ld_putO (T := tU8) (a := (bitsOp .xor .u8 x3 by_)) (by kernel_rfl) rfl rfl hF39 (i := 7) (by omega) rfl rfl (by omega) ⟨by omega, by omega⟩ ?_))
  intro W10 hF39' hu10
  have hk10 := Kp.ofb hu10
  have hs10 := hk10.size
  replace hE := Ext.kp hE hk10 (fun k hk => by first | omega | (have hk := hk; dsimp only at hk; omega))
  replace h_b := h_b.kp hk10 (fun k hk => by first | omega | (have hk := hk; dsimp only at hk; omega))
  replace hF12 := hF12.kp hk10 (fun k hk => by first | omega | (have hk := hk; dsimp only at hk; omega))
  replace hF14 := hF14.kp hk10 (fun k hk => by first | omega | (have hk := hk; dsimp only at hk; omega))
  replace hB16 := hB16.kp hk10 (fun hk => by first | omega | (have hk := hk; dsimp only at hk; omega))
  replace hF36 := hF36.kp hk10 (fun k hk => by first | omega | (have hk := hk; dsimp only at hk; omega))
  replace hF39 := hF39'
  have hnhF39 := hF39.ln
  refine RL_nil (X_then (C_seq (?_)))
  refine C_regionD (NoB) (l := [(0, true), (3, true), (4, true), (1, false), (2, true), (5, true), (6, true), (7, false), (8, true), (9, true)]) (by kernel_rfl) (by kernel_rfl) rfl (by kernel_rfl) (fun _ _ d _ _ h => by cases d <;> exact h) ?_
  intro W11 he11 hh11
  replace hE := Ext.trans hE he11
  replace h_b := h_b.ext he11
  replace hF12 := hF12.ext he11
  replace hF14 := hF14.ext he11
  replace hB16 := hB16.ext he11
  replace hF36 := hF36.ext he11
  replace hF39 := hF39.ext he11
  have hs11 := he11.size
  refine RO_q rfl rfl (Yd_move rfl) (RO_q rfl rfl (Yd_move rfl) (RO_q rfl rfl (Yd_str Try.underlying32 Try.underlying5 Try.underlying9 rfl (fun W hW => Rd.ext (hF12.vw).u8 hW.ext)) (RO_l rfl rfl (Ld_call Try.func23 rfl (by kernel_rfl) rfl (BytesV (f := (⟨true, false, true, (0 + 1), 0, (fill b (32 : Int).toNat)⟩ : Fr)) hB16 okhB16) ?_))))
  rintro e W12 ⟨A69, n69, c69, rfl, hF69, he12⟩
  refine ⟨_, rfl, ?_⟩
  refine ⟨Kp.of_ext he12, ?_⟩
  replace hE := Ext.trans hE he12
  replace h_b := h_b.ext he12
  replace hF12 := hF12.ext he12
  replace hF14 := hF14.ext he12
  replace hB16 := hB16.ext he12
  replace hF36 := hF36.ext he12
  replace hF39 := hF39.ext he12
  have hs12 := he12.size
  have hn69 := hF69.ln
  have hc69 := hF69.cap
  replace hF69 := hF69.cast (show _ = (fill b (32 : Int).toNat) from rfl)
  refine RO_q rfl rfl (Yd_str Try.underlying32 Try.underlying5 Try.underlying9 rfl (fun W hW => Rd.ext (hF69.vw).u8 hW.ext)) (RO_q rfl rfl (Yd_eqlSB rfl rfl hF69.byt hF12.byt) (RO_q rfl rfl (Yd_move rfl) (?_)))
  refine RO_is (d := 74) (b' := true) rfl (by simp) ?_
  refine RO_gl rfl rfl rfl rfl (Ld_call Try.func20 rfl (by kernel_rfl) rfl (lives12V ) ?_)
  rintro e W13 ⟨_, rfl, rfl, he13⟩
  refine ⟨_, rfl, ?_⟩
  refine ⟨Kp.of_ext he13, ?_⟩
  replace hE := Ext.trans hE he13
  replace h_b := h_b.ext he13
  replace hF12 := hF12.ext he13
  replace hF14 := hF14.ext he13
  replace hB16 := hB16.ext he13
  replace hF36 := hF36.ext he13
  replace hF39 := hF39.ext he13
  replace hF69 := hF69.ext he13
  have hs13 := he13.size
  refine RO_q rfl rfl (Yd_pickT rfl rfl) (RO_q rfl rfl (Yd_assign rfl) (RO_nil (X_then (C_ret (X_ret1 rfl rfl ?_)))))
  refine ⟨_, rfl, ?_, hE⟩
  all_goals (first | rfl | omega | simp)
end Go.Proofs.AL
