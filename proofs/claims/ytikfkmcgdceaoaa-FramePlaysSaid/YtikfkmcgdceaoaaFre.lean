import Derived.Test.YtikfkmcgdceaoaaFrd
set_option linter.unusedVariables false
set_option linter.unusedSimpArgs false
namespace Go.Proofs.AL
open Go.RowKit

def frEq (a b : Fr) : Bool := (a.u == b.u) && ((a.d == b.d) && ((a.r == b.r) && ((a.pins == b.pins) && ((a.page == b.page) && (((strOfNums a.b).toList == (strOfNums b.b).toList) && true)))))
theorem Fr_eqr (a b : Fr) : ((a.u == b.u) && ((a.d == b.d) && ((a.r == b.r) && ((a.pins == b.pins) && ((a.page == b.page) && (((strOfNums a.b).toList == (strOfNums b.b).toList) && true)))))) = frEq a b := rfl
theorem frEq_self (a : Fr) : frEq a a = true := by simp [frEq]
set_option maxHeartbeats 4000000 in
theorem asFV {g : Nat} {f : Fr} {w : World}  (hf : Blk w g 28 (frC f)) (okhf : FOk f) :
    Calls Try.prog 27 #[.pointer (some ⟨g, 0, none⟩)] w fun e w' => e = .returned (.agg #[.bool f.u, .bool f.d, .bool f.r, .int .i64 f.pins, .int .i64 f.page, .string (strOfNums f.b)]) ∧ Ext w w' := by
  have hE := Ext.refl w
  have hgl := hf.lt
  refine calls_of (l := [.pointer (some ⟨g, 0, none⟩)]) (N := 31) Try.func27 rfl rfl rfl ?_
  refine C_seq (C_region (RL_l rfl (Ld_alloc (v := (.agg #[(.bool false), (.bool false), (.bool false), (.int .i64 0), (.int .i64 0), (.string ⟨#[]⟩)])) (by kernel_rfl) ?_)))
  have hg_2 := hE.size
  intro W1 he1 hz1 hB2
  replace hE := Ext.trans hE he1
  replace hf := hf.ext he1
  refine RL_nil (X_then (C_seq (?_)))
  refine C_regionD (fun k => k = w.heap.size) (l := [(0, true), (1, true), (2, true), (3, true), (4, true), (5, true), (6, true), (7, true), (8, true), (9, true), (10, true), (11, true), (12, true), (13, true), (14, true), (15, true), (16, true), (17, true), (18, true), (19, true), (20, true), (21, true), (22, true), (23, true), (24, true), (25, false), (26, true), (27, true), (28, false)]) (by kernel_rfl) (by kernel_rfl) rfl (by kernel_rfl) (fun _ _ d _ _ h => by cases d <;> exact h) ?_
  intro W2 he2 hh2
  replace hE := Ext.trans hE he2
  replace hf := hf.ext he2
  replace hB2 := hB2.ext he2
  have hs2 := he2.size
  refine RO_q rfl rfl (Yd_move rfl) (RO_q rfl rfl (Yd_nil rfl) (RO_q rfl rfl (Yd_fld (off := 0) Try.underlying28 (by kernel_rfl) rfl) (RO_q rfl rfl (Yd_fld (off := 0) Try.underlying25 (by kernel_rfl) rfl) (RO_q rfl rfl (Yd_load Try.underlying4 rfl rfl (fun W hW => ldBK hf rfl hW (fun hk => by first | omega | (have hk := hk; dsimp only at hk; omega)))) (RO_q rfl rfl (Yd_move rfl) (RO_q rfl rfl (Yd_nil rfl) (RO_q rfl rfl (Yd_fld (off := 0) Try.underlying28 (by kernel_rfl) rfl) (RO_q rfl rfl (Yd_fld (off := 1) Try.underlying25 (by kernel_rfl) rfl) (RO_q rfl rfl (Yd_load Try.underlying4 rfl rfl (fun W hW => ldBK hf rfl hW (fun hk => by first | omega | (have hk := hk; dsimp only at hk; omega)))) (RO_q rfl rfl (Yd_move rfl) (RO_q rfl rfl (Yd_nil rfl) (RO_q rfl rfl (Yd_fld (off := 0) Try.underlying28 (by kernel_rfl) rfl) (RO_q rfl rfl (Yd_fld (off := 2) Try.underlying25 (by kernel_rfl) rfl) (RO_q rfl rfl (Yd_load Try.underlying4 rfl rfl (fun W hW => ldBK hf rfl hW (fun hk => by first | omega | (have hk := hk; dsimp only at hk; omega)))) (RO_q rfl rfl (Yd_move rfl) (RO_q rfl rfl (Yd_nil rfl) (RO_q rfl rfl (Yd_fld (off := 0) Try.underlying28 (by kernel_rfl) rfl) (RO_q rfl rfl (Yd_fld (off := 3) Try.underlying25 (by kernel_rfl) rfl) (RO_q rfl rfl (Yd_load Try.underlying3 rfl rfl (fun W hW => ldBK hf rfl hW (fun hk => by first | omega | (have hk := hk; dsimp only at hk; omega)))) (RO_q rfl rfl (Yd_move rfl) (RO_q rfl rfl (Yd_nil rfl) (RO_q rfl rfl (Yd_fld (off := 4) Try.underlying28 (by kernel_rfl) rfl) (RO_q rfl rfl (Yd_load Try.underlying3 rfl rfl (fun W hW => ldBK hf rfl hW (fun hk => by first | omega | (have hk := hk; dsimp only at hk; omega)))) (RO_q rfl rfl (Yd_move rfl) (RO_l rfl rfl (Ld_call Try.func23 rfl (by kernel_rfl) rfl (BytesV (f := f) hf okhf) ?_))))))))))))))))))))))))))
  rintro e W3 ⟨A28, n28, c28, rfl, hF28, he3⟩
  refine ⟨_, rfl, ?_⟩
  refine ⟨Kp.of_ext he3, ?_⟩
  replace hE := Ext.trans hE he3
  replace hf := hf.ext he3
  replace hB2 := hB2.ext he3
  have hs3 := he3.size
  have hn28 := hF28.ln
  have hc28 := hF28.cap
  refine RO_q rfl rfl (Yd_str Try.underlying32 Try.underlying5 Try.underlying9 rfl (fun W hW => (Vw.kp (hF28.vw) hW (fun k hk => by first | omega | (have hk := hk; dsimp only at hk; omega))).u8)) (RO_q rfl rfl (Yd_build Try.bld43 rfl rfl) (RO_l0 rfl (Ld_store (by kernel_rfl) rfl rfl hB2 (Nat.le_of_ble_eq_true rfl) (by simp [cellsL, Value.cells, Value.oneCell']) ?_)))
  intro W4 hu4 hz4 hB2
  refine ⟨Kp.of_but hu4 (by first | rfl | omega | (dsimp only; omega)), ?_⟩
  have hk4 := Kp.ofb hu4
  have hs4 := hk4.size
  replace hE := Ext.kp hE hk4 (fun k hk => by first | omega | (have hk := hk; dsimp only at hk; omega))
  replace hf := hf.kp hk4 (fun hk => by first | omega | (have hk := hk; dsimp only at hk; omega))
  replace hF28 := hF28.kp hk4 (fun k hk => by first | omega | (have hk := hk; dsimp only at hk; omega))
  refine RO_nil (X_then (C_ret (X_retC rfl rfl Try.underlying43 rfl (by kernel_rfl) hB2 ?_)))
  exact ⟨rfl, hE⟩
end Go.Proofs.AL
