import Derived.Test.YtikfkmcgdceaoaaFre
set_option linter.unusedVariables false
set_option linter.unusedSimpArgs false
namespace Go.Proofs.AL
open Go.RowKit

structure OH where
  op : Int
  pg : Int
  off : Int
  n : Int
  A : Option Addr
  ln : Nat
  c : Nat
def OB (o : OH) : Prop := (-9223372036854775808 ≤ o.op ∧ o.op ≤ 9223372036854775807) ∧ (-9223372036854775808 ≤ o.pg ∧ o.pg ≤ 9223372036854775807) ∧ (-9223372036854775808 ≤ o.off ∧ o.off ≤ 9223372036854775807) ∧ (-9223372036854775808 ≤ o.n ∧ o.n ≤ 9223372036854775807)
def tO : Ty OH := ⟨5, fun o => [.int .i64 o.op, .int .i64 o.pg, .int .i64 o.off, .int .i64 o.n, .slice o.A o.ln o.c], OB, fun _ => rfl, fun _ v hv => by
  simp at hv
  rcases hv with rfl | rfl | rfl | rfl | rfl <;> rfl, by decide⟩
theorem rows_tyQ {α : Type} {T : Ty α} {Q : α → Prop} {rows : List (List Value)} (h : ∀ r ∈ rows, ∃ a, r = T.enc a ∧ T.ok a ∧ Q a) : ∃ l, rows.flatten = T.cells l ∧ (∀ a ∈ l, T.ok a) ∧ ∀ a ∈ l, Q a := by
  induction rows with
  | nil => exact ⟨[], rfl, (fun _ h => by cases h), (fun _ h => by cases h)⟩
  | cons r rows ih =>
    obtain ⟨l, h1, h2, h3⟩ := ih (fun r hr => h r (by simp [hr]))
    obtain ⟨a, rfl, ha, hq⟩ := h r (by simp)
    exact ⟨a :: l, by rw [List.flatten_cons, h1]; rfl, okc ha h2, okc hq h3⟩
theorem vw_rowsQ {α : Type} {T : Ty α} {Q : α → Prop} {w : World} {A : Option Addr} {n c : Nat} {rows : List (List Value)} (hr : Rd w w.heap.size T.sz A n rows.flatten) (hc : n ≤ c) (hm : c ≤ maxLen) (hz : A = none → c = 0) (h : ∀ r ∈ rows, ∃ a, r = T.enc a ∧ T.ok a ∧ Q a) : ∃ l, Vw T w 0 w.heap.size A n c l ∧ ∀ a ∈ l, Q a := by
  obtain ⟨l, h1, h2, h3⟩ := rows_tyQ h
  rw [h1] at hr
  exact ⟨l, ⟨⟨hr, hc, hz, fun _ _ => Nat.zero_le _⟩, hm, h2⟩, h3⟩
def VwO (w : World) (B : Nat) (l : List OH) : Prop := ∀ x ∈ l, ∃ bs, Vw tU8 w 0 B x.A x.ln x.c bs
theorem VwO.ext {w w' : World} {B : Nat} {l : List OH} (h : VwO w B l) (hb : Ext w w') : VwO w' B l := fun x hx => by
  obtain ⟨bs, hv⟩ := h x hx; exact ⟨bs, hv.ext hb⟩
theorem VwO.kp {G : Nat → Prop} {w w' : World} {B : Nat} {l : List OH} (h : VwO w B l) (hb : Kp G w w') (hG : ∀ k, G k → k < 0 ∨ B ≤ k) : VwO w' B l := fun x hx => by
  obtain ⟨bs, hv⟩ := h x hx; exact ⟨bs, hv.kp hb hG⟩
def loadB (o : OH) (bs : List Int) : List Int := if o.n.tmod 5 = 4 then few bs 40 else fill bs (32 : Int).toNat
def doF (f : Fr) (o : OH) (bs : List Int) : List Int × Int × Fr :=
  if around o.op 10 = 2 ∨ around o.op 10 = 3 ∨ around o.op 10 = 4 then ([], (pinF f).1, (pinF f).2)
  else if around o.op 10 = 5 then ([], (unpinF f).1, (unpinF f).2)
  else if around o.op 10 = 6 then getF f o.off o.n
  else if around o.op 10 = 7 ∨ around o.op 10 = 8 then ([], (putF f o.off (few bs 40)).1, (putF f o.off (few bs 40)).2)
  else if around o.op 10 = 9 then ([], 0, emptyF)
  else ([], (loadF f o.pg (loadB o bs)).1, (loadF f o.pg (loadB o bs)).2)
theorem loadB_byt {o : OH} {bs : List Int} (h : Byt bs) : Byt (loadB o bs) := by
  unfold loadB
  split
  · exact few_byt h 40
  · exact fill_byt h _
theorem doF_ok {f : Fr} {o : OH} {bs : List Int} (h : FOk f) (hb : Byt bs) : FOk (doF f o bs).2.2 := by
  unfold doF
  split
  · exact pinF_ok h
  · split
    · exact unpinF_ok h
    · split
      · exact getF_ok h
      · split
        · exact putF_ok h (few_byt hb 40)
        · split
          · exact emptyF_ok
          · exact loadF_ok h (loadB_byt hb)
set_option maxHeartbeats 4000000 in
theorem doV {g : Nat} {f : Fr} {o : OH} {lo_o B_o : Nat} {bs : List Int} {w : World}  (hf : Blk w g 28 (frC f)) (okhf : FOk f) (h_o : Vw tU8 w lo_o B_o o.A o.ln o.c bs) (b_o : OB o) (h_g : B_o ≤ g) :
    Calls Try.prog 30 #[.pointer (some ⟨g, 0, none⟩), .agg #[.int .i64 o.op, .int .i64 o.pg, .int .i64 o.off, .int .i64 o.n, .slice o.A o.ln o.c]] w fun e w' => e = .returned (.tuple #[.string (strOfNums (doF f o bs).1), .int .i64 (doF f o bs).2.1]) ∧ Byt (doF f o bs).1 ∧ Blk w' g 28 (frC (doF f o bs).2.2) ∧ Kp (fun k => k = g) w w' := by
  have hE := Ext.refl w
  have hn_o := h_o.ln
  have hc_o := h_o.cap
  have hm_o := h_o.max
  simp only [maxLen] at hm_o
  obtain ⟨bo1, bo2, bo3, bo4⟩ := b_o
  have hK : Kp (fun k => k = g) w w := Kp.refl _ _
  have hgl := hf.lt
  refine calls_of (l := [.pointer (some ⟨g, 0, none⟩), .agg #[.int .i64 o.op, .int .i64 o.pg, .int .i64 o.off, .int .i64 o.n, .slice o.A o.ln o.c]]) (N := 69) Try.func30 rfl rfl rfl ?_
  refine C_seq (C_region (RL_l rfl (Ld_box rfl ?_)))
  have hg_3 := hE.size
  intro W1 he1 hz1 hB3
  replace h_o := h_o.ext he1
  replace hf := hf.ext he1
  replace hK := Kp.go hK (Kp.of_ext (G := NoB) he1) (fun _ h => h.elim)
  refine RL_q rfl (Yd_assign rfl) (RL_q rfl (Yd_assign rfl) (RL_nil (X_then (C_seq (C_seq (C_region (RL_q rfl (Yd_fld (off := 0) Try.underlying51 (by kernel_rfl) rfl) (RL_q rfl (Yd_load Try.underlying3 rfl rfl (ldB hB3 rfl)) (RL_l rfl (Ld_call Try.func15 rfl (by kernel_rfl) rfl (AroundV ⟨by first | omega | (dsimp only; omega), by first | omega | (dsimp only; omega)⟩ ⟨by first | omega | (dsimp only; omega), by first | omega | (dsimp only; omega)⟩) ?_))))))))))
  rintro e W2 ⟨y11, rfl, hy11, hra11, rfl⟩
  refine ⟨_, rfl, ?_⟩
  refine RL_nil (X_then (C_block (C_seq (C_seq (C_region (RL_q rfl (Yd_eql rfl rfl) (RL_q rfl (Yd_assign rfl) (RL_nil (X_then (?_))))))))))
  refine C_cond rfl (fun hb12 => ?_) (fun hb12 => ?_)
  · skip
    have hkhb12 := hb12
    try simp only [decide_eq_true_eq, decide_eq_false_iff_not, Bool.not_eq_true', Bool.not_eq_false', Decidable.not_not, Int.not_lt, Int.not_le, Bool.or_eq_true, Bool.and_eq_true, Bool.or_eq_false_iff, Bool.and_eq_false_iff] at hb12
    refine C_skip (X_then (C_yes rfl hkhb12 (C_seq (C_region (RL_q rfl (Yd_move rfl) (RL_q rfl (Yd_nil rfl) (RL_q rfl (Yd_fld (off := 0) Try.underlying28 (by kernel_rfl) rfl) (RL_l rfl (Ld_call Try.func16 rfl (by kernel_rfl) rfl (PinV (f := f) hf okhf) ?_)))))))))
    rintro e W3 ⟨rfl, hfn, hk3⟩
    refine ⟨_, rfl, ?_⟩
    have hs3 := hk3.size
    replace h_o := h_o.kp hk3 (fun k hk => by first | omega | (have hk := hk; dsimp only at hk; omega))
    replace hK := hK.go hk3 (fun k hk => by first | omega | (have hk := hk; dsimp only at hk; dsimp only; omega))
    replace hB3 := hB3.kp hk3 (fun hk => by first | omega | (have hk := hk; dsimp only at hk; omega))
    replace hf := hfn
    replace okhf : FOk ((pinF f).2) := pinF_ok okhf
    refine RL_q rfl (Yd_assign rfl) (RL_q rfl (Yd_assign rfl) (RL_nil (X_then (C_ret (X_blockR (X_thenR (X_ret2 rfl rfl rfl ?_)))))))
    have hp : doF f o bs = ([], (pinF f).1, (pinF f).2) := by unfold doF; rw [← hy11]; (repeat (first | rw [if_pos (by omega)] | rw [if_neg (by omega)])) <;> first | rfl | (unfold loadB; first | (rw [if_pos (by omega)]; done) | (rw [if_neg (by omega)]; done))
    rw [hp]; exact ⟨rfl, Byt.nil, hf, hK⟩
  · skip
    have hkhb12 := hb12
    try simp only [decide_eq_true_eq, decide_eq_false_iff_not, Bool.not_eq_true', Bool.not_eq_false', Decidable.not_not, Int.not_lt, Int.not_le, Bool.or_eq_true, Bool.and_eq_true, Bool.or_eq_false_iff, Bool.and_eq_false_iff] at hb12
    refine C_seq (C_region (RL_q rfl (Yd_eql rfl rfl) (RL_q rfl (Yd_assign rfl) (RL_nil (X_then (?_))))))
    refine C_cond rfl (fun hb12 => ?_) (fun hb12 => ?_)
    · skip
      have hkhb12 := hb12
      try simp only [decide_eq_true_eq, decide_eq_false_iff_not, Bool.not_eq_true', Bool.not_eq_false', Decidable.not_not, Int.not_lt, Int.not_le, Bool.or_eq_true, Bool.and_eq_true, Bool.or_eq_false_iff, Bool.and_eq_false_iff] at hb12
      refine C_skip (X_then (C_yes rfl hkhb12 (C_seq (C_region (RL_q rfl (Yd_move rfl) (RL_q rfl (Yd_nil rfl) (RL_q rfl (Yd_fld (off := 0) Try.underlying28 (by kernel_rfl) rfl) (RL_l rfl (Ld_call Try.func16 rfl (by kernel_rfl) rfl (PinV (f := f) hf okhf) ?_)))))))))
      rintro e W3 ⟨rfl, hfn, hk3⟩
      refine ⟨_, rfl, ?_⟩
      have hs3 := hk3.size
      replace h_o := h_o.kp hk3 (fun k hk => by first | omega | (have hk := hk; dsimp only at hk; omega))
      replace hK := hK.go hk3 (fun k hk => by first | omega | (have hk := hk; dsimp only at hk; dsimp only; omega))
      replace hB3 := hB3.kp hk3 (fun hk => by first | omega | (have hk := hk; dsimp only at hk; omega))
      replace hf := hfn
      replace okhf : FOk ((pinF f).2) := pinF_ok okhf
      refine RL_q rfl (Yd_assign rfl) (RL_q rfl (Yd_assign rfl) (RL_nil (X_then (C_ret (X_blockR (X_thenR (X_ret2 rfl rfl rfl ?_)))))))
      have hp : doF f o bs = ([], (pinF f).1, (pinF f).2) := by unfold doF; rw [← hy11]; (repeat (first | rw [if_pos (by omega)] | rw [if_neg (by omega)])) <;> first | rfl | (unfold loadB; first | (rw [if_pos (by omega)]; done) | (rw [if_neg (by omega)]; done))
      rw [hp]; exact ⟨rfl, Byt.nil, hf, hK⟩
    · skip
      have hkhb12 := hb12
      try simp only [decide_eq_true_eq, decide_eq_false_iff_not, Bool.not_eq_true', Bool.not_eq_false', Decidable.not_not, Int.not_lt, Int.not_le, Bool.or_eq_true, Bool.and_eq_true, Bool.or_eq_false_iff, Bool.and_eq_false_iff] at hb12
      refine C_region (RL_q rfl (Yd_eql rfl rfl) (RL_q rfl (Yd_assign rfl) (RL_nil (X_then (?_)))))
      refine C_cond rfl (fun hb12 => ?_) (fun hb12 => ?_)
      · skip
        have hkhb12 := hb12
        try simp only [decide_eq_true_eq, decide_eq_false_iff_not, Bool.not_eq_true', Bool.not_eq_false', Decidable.not_not, Int.not_lt, Int.not_le, Bool.or_eq_true, Bool.and_eq_true, Bool.or_eq_false_iff, Bool.and_eq_false_iff] at hb12
        refine C_seq (C_region (RL_q rfl (Yd_move rfl) (RL_q rfl (Yd_nil rfl) (RL_q rfl (Yd_fld (off := 0) Try.underlying28 (by kernel_rfl) rfl) (RL_l rfl (Ld_call Try.func16 rfl (by kernel_rfl) rfl (PinV (f := f) hf okhf) ?_))))))
        rintro e W3 ⟨rfl, hfn, hk3⟩
        refine ⟨_, rfl, ?_⟩
        have hs3 := hk3.size
        replace h_o := h_o.kp hk3 (fun k hk => by first | omega | (have hk := hk; dsimp only at hk; omega))
        replace hK := hK.go hk3 (fun k hk => by first | omega | (have hk := hk; dsimp only at hk; dsimp only; omega))
        replace hB3 := hB3.kp hk3 (fun hk => by first | omega | (have hk := hk; dsimp only at hk; omega))
        replace hf := hfn
        replace okhf : FOk ((pinF f).2) := pinF_ok okhf
        refine RL_q rfl (Yd_assign rfl) (RL_q rfl (Yd_assign rfl) (RL_nil (X_then (C_ret (X_blockR (X_thenR (X_ret2 rfl rfl rfl ?_)))))))
        have hp : doF f o bs = ([], (pinF f).1, (pinF f).2) := by unfold doF; rw [← hy11]; (repeat (first | rw [if_pos (by omega)] | rw [if_neg (by omega)])) <;> first | rfl | (unfold loadB; first | (rw [if_pos (by omega)]; done) | (rw [if_neg (by omega)]; done))
        rw [hp]; exact ⟨rfl, Byt.nil, hf, hK⟩
      · skip
        have hkhb12 := hb12
        try simp only [decide_eq_true_eq, decide_eq_false_iff_not, Bool.not_eq_true', Bool.not_eq_false', Decidable.not_not, Int.not_lt, Int.not_le, Bool.or_eq_true, Bool.and_eq_true, Bool.or_eq_false_iff, Bool.and_eq_false_iff] at hb12
        refine C_seq (C_region (RL_q rfl (Yd_eql rfl rfl) (RL_q rfl (Yd_assign rfl) (RL_nil (X_then (?_))))))
        refine C_cond rfl (fun hb20 => ?_) (fun hb20 => ?_)
        · skip
          have hkhb20 := hb20
          try simp only [decide_eq_true_eq, decide_eq_false_iff_not, Bool.not_eq_true', Bool.not_eq_false', Decidable.not_not, Int.not_lt, Int.not_le, Bool.or_eq_true, Bool.and_eq_true, Bool.or_eq_false_iff, Bool.and_eq_false_iff] at hb20
          refine C_seq (C_region (RL_q rfl (Yd_move rfl) (RL_q rfl (Yd_nil rfl) (RL_q rfl (Yd_fld (off := 0) Try.underlying28 (by kernel_rfl) rfl) (RL_l rfl (Ld_call Try.func18 rfl (by kernel_rfl) rfl (UnpinV (f := f) hf okhf) ?_))))))
          rintro e W3 ⟨rfl, hfn, hk3⟩
          refine ⟨_, rfl, ?_⟩
          have hs3 := hk3.size
          replace h_o := h_o.kp hk3 (fun k hk => by first | omega | (have hk := hk; dsimp only at hk; omega))
          replace hK := hK.go hk3 (fun k hk => by first | omega | (have hk := hk; dsimp only at hk; dsimp only; omega))
          replace hB3 := hB3.kp hk3 (fun hk => by first | omega | (have hk := hk; dsimp only at hk; omega))
          replace hf := hfn
          replace okhf : FOk ((unpinF f).2) := unpinF_ok okhf
          refine RL_q rfl (Yd_assign rfl) (RL_q rfl (Yd_assign rfl) (RL_nil (X_then (C_ret (X_blockR (X_thenR (X_ret2 rfl rfl rfl ?_)))))))
          have hp : doF f o bs = ([], (unpinF f).1, (unpinF f).2) := by unfold doF; rw [← hy11]; (repeat (first | rw [if_pos (by omega)] | rw [if_neg (by omega)])) <;> first | rfl | (unfold loadB; first | (rw [if_pos (by omega)]; done) | (rw [if_neg (by omega)]; done))
          rw [hp]; exact ⟨rfl, Byt.nil, hf, hK⟩
        · skip
          have hkhb20 := hb20
          try simp only [decide_eq_true_eq, decide_eq_false_iff_not, Bool.not_eq_true', Bool.not_eq_false', Decidable.not_not, Int.not_lt, Int.not_le, Bool.or_eq_true, Bool.and_eq_true, Bool.or_eq_false_iff, Bool.and_eq_false_iff] at hb20
          refine C_seq (C_region (RL_q rfl (Yd_eql rfl rfl) (RL_q rfl (Yd_assign rfl) (RL_nil (X_then (?_))))))
          refine C_cond rfl (fun hb26 => ?_) (fun hb26 => ?_)
          · skip
            have hkhb26 := hb26
            try simp only [decide_eq_true_eq, decide_eq_false_iff_not, Bool.not_eq_true', Bool.not_eq_false', Decidable.not_not, Int.not_lt, Int.not_le, Bool.or_eq_true, Bool.and_eq_true, Bool.or_eq_false_iff, Bool.and_eq_false_iff] at hb26
            refine C_seq (C_region (RL_q rfl (Yd_move rfl) (RL_q rfl (Yd_fld (off := 2) Try.underlying51 (by kernel_rfl) rfl) (RL_q rfl (Yd_load Try.underlying3 rfl rfl (ldB hB3 rfl)) (RL_q rfl (Yd_fld (off := 3) Try.underlying51 (by kernel_rfl) rfl) (RL_q rfl (Yd_load Try.underlying3 rfl rfl (ldB hB3 rfl)) (RL_l rfl (Ld_call Try.func24 rfl (by kernel_rfl) rfl (GetV (f := f) hf okhf ⟨by first | omega | (dsimp only; omega), by first | omega | (dsimp only; omega)⟩ ⟨by first | omega | (dsimp only; omega), by first | omega | (dsimp only; omega)⟩) ?_))))))))
            rintro e W3 ⟨A34, n34, c34, rfl, hF34, hfn, hk3⟩
            refine ⟨_, rfl, ?_⟩
            have hs3 := hk3.size
            replace h_o := h_o.kp hk3 (fun k hk => by first | omega | (have hk := hk; dsimp only at hk; omega))
            replace hK := hK.go hk3 (fun k hk => by first | omega | (have hk := hk; dsimp only at hk; dsimp only; omega))
            replace hB3 := hB3.kp hk3 (fun hk => by first | omega | (have hk := hk; dsimp only at hk; omega))
            replace hf := hfn
            have hn34 := hF34.ln
            have hc34 := hF34.cap
            replace okhf : FOk ((getF f o.off o.n).2.2) := getF_ok okhf
            refine RL_q rfl (Yd_move rfl) (RL_q rfl (Yd_extract rfl rfl) (RL_q rfl (Yd_extract rfl rfl) (RL_q rfl (Yd_assign rfl) (RL_q rfl (Yd_assign rfl) (RL_nil (X_then (C_seq (C_region (RL_q rfl (Yd_move rfl) (RL_q rfl (Yd_str Try.underlying32 Try.underlying5 Try.underlying9 rfl (fun W hW => Rd.ext (hF34.vw).u8 hW)) (RL_q rfl (Yd_move rfl) (RL_q rfl (Yd_assign rfl) (RL_q rfl (Yd_assign rfl) (RL_nil (X_then (C_ret (X_blockR (X_thenR (X_ret2 rfl rfl rfl ?_)))))))))))))))))))
            have hp : doF f o bs = ((getF f o.off o.n).1, (getF f o.off o.n).2.1, (getF f o.off o.n).2.2) := by unfold doF; rw [← hy11]; (repeat (first | rw [if_pos (by omega)] | rw [if_neg (by omega)])) <;> first | rfl | (unfold loadB; first | (rw [if_pos (by omega)]; done) | (rw [if_neg (by omega)]; done))
            rw [hp]; exact ⟨rfl, hF34.byt, hf, hK⟩
          · skip
            have hkhb26 := hb26
            try simp only [decide_eq_true_eq, decide_eq_false_iff_not, Bool.not_eq_true', Bool.not_eq_false', Decidable.not_not, Int.not_lt, Int.not_le, Bool.or_eq_true, Bool.and_eq_true, Bool.or_eq_false_iff, Bool.and_eq_false_iff] at hb26
            refine C_seq (C_seq (C_region (RL_q rfl (Yd_eql rfl rfl) (RL_q rfl (Yd_assign rfl) (RL_nil (X_then (?_)))))))
            refine C_cond rfl (fun hb40 => ?_) (fun hb40 => ?_)
            · skip
              have hkhb40 := hb40
              try simp only [decide_eq_true_eq, decide_eq_false_iff_not, Bool.not_eq_true', Bool.not_eq_false', Decidable.not_not, Int.not_lt, Int.not_le, Bool.or_eq_true, Bool.and_eq_true, Bool.or_eq_false_iff, Bool.and_eq_false_iff] at hb40
              refine C_skip (X_then (C_yes rfl hkhb40 (C_seq (?_))))
              refine C_regionD (fun k => k = g) (l := [(0, true), (1, true), (2, true), (3, true), (4, true), (5, false), (6, false), (7, true), (8, true)]) (by kernel_rfl) (by kernel_rfl) rfl (by kernel_rfl) (fun _ _ d _ _ h => by cases d <;> exact h) ?_
              intro W3 he3 hh3
              replace h_o := h_o.ext he3
              replace hf := hf.ext he3
              replace hK := Kp.go hK (Kp.of_ext (G := NoB) he3) (fun _ h => h.elim)
              replace hB3 := hB3.ext he3
              have hs3 := he3.size
              refine RO_q rfl rfl (Yd_move rfl) (RO_q rfl rfl (Yd_fld (off := 2) Try.underlying51 (by kernel_rfl) rfl) (RO_q rfl rfl (Yd_load Try.underlying3 rfl rfl (fun W hW => ldBK hB3 rfl hW (fun hk => by first | omega | (have hk := hk; dsimp only at hk; omega)))) (RO_q rfl rfl (Yd_fld (off := 4) Try.underlying51 (by kernel_rfl) rfl) (RO_q rfl rfl (Yd_load Try.underlying32 rfl rfl (fun W hW => ldBK hB3 rfl hW (fun hk => by first | omega | (have hk := hk; dsimp only at hk; omega)))) (RO_l rfl rfl (Ld_call Try.func22 rfl (by kernel_rfl) rfl (FewV h_o ⟨by first | omega | (dsimp only; omega), by first | omega | (dsimp only; omega)⟩) ?_))))))
              rintro e W4 ⟨A48, n48, c48, rfl, hF48, hle48, he4⟩
              refine ⟨_, rfl, ?_⟩
              refine ⟨Kp.of_ext he4, ?_⟩
              replace h_o := h_o.ext he4
              replace hf := hf.ext he4
              replace hK := Kp.go hK (Kp.of_ext (G := NoB) he4) (fun _ h => h.elim)
              replace hB3 := hB3.ext he4
              have hs4 := he4.size
              have hn48 := hF48.ln
              try simp only [List.length_append, List.length_cons, List.length_nil, List.length_set, List.length_take, List.length_drop, List.length_replicate, List.length_map, Nat.zero_add, Nat.add_zero] at hn48
              have hc48 := hF48.cap
              try rw [hle48.2.2.1 (by omega)] at hF48 hn48
              refine RO_l rfl rfl (Ld_call Try.func25 rfl (by kernel_rfl) rfl (PutV (f := f) hf okhf ⟨by first | omega | (dsimp only; omega), by first | omega | (dsimp only; omega)⟩ hF48.vw) ?_)
              rintro e W5 ⟨rfl, hfn, hk5⟩
              refine ⟨_, rfl, ?_⟩
              refine ⟨hk5.mono (fun k hk => by first | omega | exact hk | (have hk := hk; dsimp only at hk; first | omega | (dsimp only; omega))), ?_⟩
              have hs5 := hk5.size
              replace h_o := h_o.kp hk5 (fun k hk => by first | omega | (have hk := hk; dsimp only at hk; omega))
              replace hK := hK.go hk5 (fun k hk => by first | omega | (have hk := hk; dsimp only at hk; dsimp only; omega))
              replace hB3 := hB3.kp hk5 (fun hk => by first | omega | (have hk := hk; dsimp only at hk; omega))
              replace hF48 := hF48.kp hk5 (fun k hk => by first | omega | (have hk := hk; dsimp only at hk; omega))
              replace hf := hfn
              replace okhf : FOk ((putF f o.off (few bs 40)).2) := putF_ok okhf hF48.vw.byt
              refine RO_q rfl rfl (Yd_assign rfl) (RO_q rfl rfl (Yd_assign rfl) (RO_nil (X_then (C_ret (X_blockR (X_thenR (X_ret2 rfl rfl rfl ?_)))))))
              have hp : doF f o bs = ([], (putF f o.off (few bs 40)).1, (putF f o.off (few bs 40)).2) := by unfold doF; rw [← hy11]; (repeat (first | rw [if_pos (by omega)] | rw [if_neg (by omega)])) <;> first | rfl | (unfold loadB; first | (rw [if_pos (by omega)]; done) | (rw [if_neg (by omega)]; done))
              rw [hp]; exact ⟨rfl, Byt.nil, hf, hK⟩
            · skip
              have hkhb40 := hb40
              try simp only [decide_eq_true_eq, decide_eq_false_iff_not, Bool.not_eq_true', Bool.not_eq_false', Decidable.not_not, Int.not_lt, Int.not_le, Bool.or_eq_true, Bool.and_eq_true, Bool.or_eq_false_iff, Bool.and_eq_false_iff] at hb40
              refine C_region (RL_q rfl (Yd_eql rfl rfl) (RL_q rfl (Yd_assign rfl) (RL_nil (X_then (?_)))))
              refine C_cond rfl (fun hb40 => ?_) (fun hb40 => ?_)
              · skip
                have hkhb40 := hb40
                try simp only [decide_eq_true_eq, decide_eq_false_iff_not, Bool.not_eq_true', Bool.not_eq_false', Decidable.not_not, Int.not_lt, Int.not_le, Bool.or_eq_true, Bool.and_eq_true, Bool.or_eq_false_iff, Bool.and_eq_false_iff] at hb40
                refine C_seq (?_)
                refine C_regionD (fun k => k = g) (l := [(0, true), (1, true), (2, true), (3, true), (4, true), (5, false), (6, false), (7, true), (8, true)]) (by kernel_rfl) (by kernel_rfl) rfl (by kernel_rfl) (fun _ _ d _ _ h => by cases d <;> exact h) ?_
                intro W3 he3 hh3
                replace h_o := h_o.ext he3
                replace hf := hf.ext he3
                replace hK := Kp.go hK (Kp.of_ext (G := NoB) he3) (fun _ h => h.elim)
                replace hB3 := hB3.ext he3
                have hs3 := he3.size
                refine RO_q rfl rfl (Yd_move rfl) (RO_q rfl rfl (Yd_fld (off := 2) Try.underlying51 (by kernel_rfl) rfl) (RO_q rfl rfl (Yd_load Try.underlying3 rfl rfl (fun W hW => ldBK hB3 rfl hW (fun hk => by first | omega | (have hk := hk; dsimp only at hk; omega)))) (RO_q rfl rfl (Yd_fld (off := 4) Try.underlying51 (by kernel_rfl) rfl) (RO_q rfl rfl (Yd_load Try.underlying32 rfl rfl (fun W hW => ldBK hB3 rfl hW (fun hk => by first | omega | (have hk := hk; dsimp only at hk; omega)))) (RO_l rfl rfl (Ld_call Try.func22 rfl (by kernel_rfl) rfl (FewV h_o ⟨by first | omega | (dsimp only; omega), by first | omega | (dsimp only; omega)⟩) ?_))))))
                rintro e W4 ⟨A48, n48, c48, rfl, hF48, hle48, he4⟩
                refine ⟨_, rfl, ?_⟩
                refine ⟨Kp.of_ext he4, ?_⟩
                replace h_o := h_o.ext he4
                replace hf := hf.ext he4
                replace hK := Kp.go hK (Kp.of_ext (G := NoB) he4) (fun _ h => h.elim)
                replace hB3 := hB3.ext he4
                have hs4 := he4.size
                have hn48 := hF48.ln
                try simp only [List.length_append, List.length_cons, List.length_nil, List.length_set, List.length_take, List.length_drop, List.length_replicate, List.length_map, Nat.zero_add, Nat.add_zero] at hn48
                have hc48 := hF48.cap
                try rw [hle48.2.2.1 (by omega)] at hF48 hn48
                refine RO_l rfl rfl (Ld_call Try.func25 rfl (by kernel_rfl) rfl (PutV (f := f) hf okhf ⟨by first | omega | (dsimp only; omega), by first | omega | (dsimp only; omega)⟩ hF48.vw) ?_)
                rintro e W5 ⟨rfl, hfn, hk5⟩
                refine ⟨_, rfl, ?_⟩
                refine ⟨hk5.mono (fun k hk => by first | omega | exact hk | (have hk := hk; dsimp only at hk; first | omega | (dsimp only; omega))), ?_⟩
                have hs5 := hk5.size
                replace h_o := h_o.kp hk5 (fun k hk => by first | omega | (have hk := hk; dsimp only at hk; omega))
                replace hK := hK.go hk5 (fun k hk => by first | omega | (have hk := hk; dsimp only at hk; dsimp only; omega))
                replace hB3 := hB3.kp hk5 (fun hk => by first | omega | (have hk := hk; dsimp only at hk; omega))
                replace hF48 := hF48.kp hk5 (fun k hk => by first | omega | (have hk := hk; dsimp only at hk; omega))
                replace hf := hfn
                replace okhf : FOk ((putF f o.off (few bs 40)).2) := putF_ok okhf hF48.vw.byt
                refine RO_q rfl rfl (Yd_assign rfl) (RO_q rfl rfl (Yd_assign rfl) (RO_nil (X_then (C_ret (X_blockR (X_thenR (X_ret2 rfl rfl rfl ?_)))))))
                have hp : doF f o bs = ([], (putF f o.off (few bs 40)).1, (putF f o.off (few bs 40)).2) := by unfold doF; rw [← hy11]; (repeat (first | rw [if_pos (by omega)] | rw [if_neg (by omega)])) <;> first | rfl | (unfold loadB; first | (rw [if_pos (by omega)]; done) | (rw [if_neg (by omega)]; done))
                rw [hp]; exact ⟨rfl, Byt.nil, hf, hK⟩
              · skip
                have hkhb40 := hb40
                try simp only [decide_eq_true_eq, decide_eq_false_iff_not, Bool.not_eq_true', Bool.not_eq_false', Decidable.not_not, Int.not_lt, Int.not_le, Bool.or_eq_true, Bool.and_eq_true, Bool.or_eq_false_iff, Bool.and_eq_false_iff] at hb40
                refine C_seq (C_region (RL_q rfl (Yd_eql rfl rfl) (RL_q rfl (Yd_assign rfl) (RL_nil (X_then (?_))))))
                refine C_cond rfl (fun hb50 => ?_) (fun hb50 => ?_)
                · skip
                  have hkhb50 := hb50
                  try simp only [decide_eq_true_eq, decide_eq_false_iff_not, Bool.not_eq_true', Bool.not_eq_false', Decidable.not_not, Int.not_lt, Int.not_le, Bool.or_eq_true, Bool.and_eq_true, Bool.or_eq_false_iff, Bool.and_eq_false_iff] at hb50
                  refine C_seq (C_region (RL_q rfl (Yd_move rfl) (RL_l rfl (Ld_call Try.func31 rfl (by kernel_rfl) rfl (ZeroFV (f := f) hf okhf) ?_))))
                  rintro e W3 ⟨rfl, hfn, hk3⟩
                  refine ⟨_, rfl, ?_⟩
                  have hs3 := hk3.size
                  replace h_o := h_o.kp hk3 (fun k hk => by first | omega | (have hk := hk; dsimp only at hk; omega))
                  replace hK := hK.go hk3 (fun k hk => by first | omega | (have hk := hk; dsimp only at hk; dsimp only; omega))
                  replace hB3 := hB3.kp hk3 (fun hk => by first | omega | (have hk := hk; dsimp only at hk; omega))
                  replace hf := hfn
                  replace okhf : FOk emptyF := emptyF_ok
                  refine RL_nil (X_then (C_seq (C_region (RL_q rfl (Yd_assign rfl) (RL_q rfl (Yd_assign rfl) (RL_nil (X_then (C_ret (X_blockR (X_thenR (X_ret2 rfl rfl rfl ?_)))))))))))
                  have hp : doF f o bs = ([], 0, emptyF) := by unfold doF; rw [← hy11]; (repeat (first | rw [if_pos (by omega)] | rw [if_neg (by omega)])) <;> first | rfl | (unfold loadB; first | (rw [if_pos (by omega)]; done) | (rw [if_neg (by omega)]; done))
                  rw [hp]; exact ⟨rfl, Byt.nil, hf, hK⟩
                · skip
                  have hkhb50 := hb50
                  try simp only [decide_eq_true_eq, decide_eq_false_iff_not, Bool.not_eq_true', Bool.not_eq_false', Decidable.not_not, Int.not_lt, Int.not_le, Bool.or_eq_true, Bool.and_eq_true, Bool.or_eq_false_iff, Bool.and_eq_false_iff] at hb50
                  refine C_skip (X_block (X_then (C_seq (C_region (RL_q rfl (Yd_fld (off := 4) Try.underlying51 (by kernel_rfl) rfl) (RL_q rfl (Yd_load Try.underlying32 rfl rfl (ldB hB3 rfl)) (RL_l rfl (Ld_call Try.func21 rfl (by kernel_rfl) rfl (FillV h_o ⟨by first | omega | (dsimp only; omega), by first | omega | (dsimp only; omega)⟩) ?_))))))))
                  rintro e W3 ⟨A56, n56, c56, rfl, hF56, hfl56, he3⟩
                  refine ⟨_, rfl, ?_⟩
                  replace h_o := h_o.ext he3
                  replace hf := hf.ext he3
                  replace hK := Kp.go hK (Kp.of_ext (G := NoB) he3) (fun _ h => h.elim)
                  replace hB3 := hB3.ext he3
                  have hs3 := he3.size
                  have hn56 := hF56.ln
                  try simp only [List.length_append, List.length_cons, List.length_nil, List.length_set, List.length_take, List.length_drop, List.length_replicate, List.length_map, Nat.zero_add, Nat.add_zero] at hn56
                  have hc56 := hF56.cap
                  refine RL_q rfl (Yd_assign rfl) (RL_nil (X_then (C_seq (C_seq (C_region (RL_q rfl (Yd_fld (off := 3) Try.underlying51 (by kernel_rfl) rfl) (RL_q rfl (Yd_load Try.underlying3 rfl rfl (ldB hB3 rfl)) (RL_q rfl (Yd_rem (r := Int.tmod o.n 5) rfl rfl (by decide) rfl) (RL_q rfl (Yd_eql rfl rfl) (RL_nil (X_then (?_))))))))))))
                  refine C_cond rfl (fun hb60 => ?_) (fun hb60 => ?_)
                  · skip
                    have hkhb60 := hb60
                    try simp only [decide_eq_true_eq, decide_eq_false_iff_not, Bool.not_eq_true', Bool.not_eq_false', Decidable.not_not, Int.not_lt, Int.not_le, Bool.or_eq_true, Bool.and_eq_true, Bool.or_eq_false_iff, Bool.and_eq_false_iff] at hb60
                    refine C_region (RL_q rfl (Yd_fld (off := 4) Try.underlying51 (by kernel_rfl) rfl) (RL_q rfl (Yd_load Try.underlying32 rfl rfl (ldB hB3 rfl)) (RL_l rfl (Ld_call Try.func22 rfl (by kernel_rfl) rfl (FewV h_o ⟨by first | omega | (dsimp only; omega), by first | omega | (dsimp only; omega)⟩) ?_))))
                    rintro e W4 ⟨A63, n63, c63, rfl, hF63, hle63, he4⟩
                    refine ⟨_, rfl, ?_⟩
                    replace h_o := h_o.ext he4
                    replace hf := hf.ext he4
                    replace hK := Kp.go hK (Kp.of_ext (G := NoB) he4) (fun _ h => h.elim)
                    replace hB3 := hB3.ext he4
                    replace hF56 := hF56.ext he4
                    have hs4 := he4.size
                    have hn63 := hF63.ln
                    try simp only [List.length_append, List.length_cons, List.length_nil, List.length_set, List.length_take, List.length_drop, List.length_replicate, List.length_map, Nat.zero_add, Nat.add_zero] at hn63
                    have hc63 := hF63.cap
                    try rw [hle63.2.2.1 (by omega)] at hF63 hn63
                    refine RL_q rfl (Yd_assign rfl) (RL_nil (X_then (C_seq (C_region (RL_q rfl (Yd_move rfl) (RL_q rfl (Yd_fld (off := 1) Try.underlying51 (by kernel_rfl) rfl) (RL_q rfl (Yd_load Try.underlying3 rfl rfl (ldB hB3 rfl)) (RL_q rfl (Yd_move rfl) (RL_l rfl (Ld_call Try.func17 rfl (by kernel_rfl) rfl (LoadV (f := f) hf okhf ⟨by first | omega | (dsimp only; omega), by first | omega | (dsimp only; omega)⟩ hF63.vw) ?_))))))))))
                    rintro e W5 ⟨rfl, hfn, hk5⟩
                    refine ⟨_, rfl, ?_⟩
                    have hs5 := hk5.size
                    replace h_o := h_o.kp hk5 (fun k hk => by first | omega | (have hk := hk; dsimp only at hk; omega))
                    replace hK := hK.go hk5 (fun k hk => by first | omega | (have hk := hk; dsimp only at hk; dsimp only; omega))
                    replace hB3 := hB3.kp hk5 (fun hk => by first | omega | (have hk := hk; dsimp only at hk; omega))
                    replace hF56 := hF56.kp hk5 (fun k hk => by first | omega | (have hk := hk; dsimp only at hk; omega))
                    replace hF63 := hF63.kp hk5 (fun k hk => by first | omega | (have hk := hk; dsimp only at hk; omega))
                    replace hf := hfn
                    replace okhf : FOk ((loadF f o.pg (few bs 40)).2) := loadF_ok okhf hF63.vw.byt
                    refine RL_q rfl (Yd_assign rfl) (RL_q rfl (Yd_assign rfl) (RL_nil (X_then (C_ret (X_ret2 rfl rfl rfl ?_)))))
                    have hp : doF f o bs = ([], (loadF f o.pg (few bs 40)).1, (loadF f o.pg (few bs 40)).2) := by unfold doF; rw [← hy11]; (repeat (first | rw [if_pos (by omega)] | rw [if_neg (by omega)])) <;> first | rfl | (unfold loadB; first | (rw [if_pos (by omega)]; done) | (rw [if_neg (by omega)]; done))
                    rw [hp]; exact ⟨rfl, Byt.nil, hf, hK⟩
                  · skip
                    have hkhb60 := hb60
                    try simp only [decide_eq_true_eq, decide_eq_false_iff_not, Bool.not_eq_true', Bool.not_eq_false', Decidable.not_not, Int.not_lt, Int.not_le, Bool.or_eq_true, Bool.and_eq_true, Bool.or_eq_false_iff, Bool.and_eq_false_iff] at hb60
                    refine C_skip (X_then (C_seq (C_region (RL_q rfl (Yd_move rfl) (RL_q rfl (Yd_fld (off := 1) Try.underlying51 (by kernel_rfl) rfl) (RL_q rfl (Yd_load Try.underlying3 rfl rfl (ldB hB3 rfl)) (RL_q rfl (Yd_move rfl) (RL_l rfl (Ld_call Try.func17 rfl (by kernel_rfl) rfl (LoadV (f := f) hf okhf ⟨by first | omega | (dsimp only; omega), by first | omega | (dsimp only; omega)⟩ hF56.vw) ?_)))))))))
                    rintro e W4 ⟨rfl, hfn, hk4⟩
                    refine ⟨_, rfl, ?_⟩
                    have hs4 := hk4.size
                    replace h_o := h_o.kp hk4 (fun k hk => by first | omega | (have hk := hk; dsimp only at hk; omega))
                    replace hK := hK.go hk4 (fun k hk => by first | omega | (have hk := hk; dsimp only at hk; dsimp only; omega))
                    replace hB3 := hB3.kp hk4 (fun hk => by first | omega | (have hk := hk; dsimp only at hk; omega))
                    replace hF56 := hF56.kp hk4 (fun k hk => by first | omega | (have hk := hk; dsimp only at hk; omega))
                    replace hf := hfn
                    replace okhf : FOk ((loadF f o.pg (fill bs (32 : Int).toNat)).2) := loadF_ok okhf hF56.vw.byt
                    refine RL_q rfl (Yd_assign rfl) (RL_q rfl (Yd_assign rfl) (RL_nil (X_then (C_ret (X_ret2 rfl rfl rfl ?_)))))
                    have hp : doF f o bs = ([], (loadF f o.pg (fill bs (32 : Int).toNat)).1, (loadF f o.pg (fill bs (32 : Int).toNat)).2) := by unfold doF; rw [← hy11]; (repeat (first | rw [if_pos (by omega)] | rw [if_neg (by omega)])) <;> first | rfl | (unfold loadB; first | (rw [if_pos (by omega)]; done) | (rw [if_neg (by omega)]; done))
                    rw [hp]; exact ⟨rfl, Byt.nil, hf, hK⟩
theorem EmptyV  {w : World}   :
    Calls Try.prog 28 #[] w fun e w' => e = .returned (.agg #[.bool false, .bool false, .bool false, .int .i64 0, .int .i64 0, .string (strOfNums (List.replicate 32 0))]) ∧ Ext w w' := by
  have hE := Ext.refl w
  refine calls_of (l := []) (N := 4) Try.func28 rfl rfl rfl ?_
  refine C_seq (C_region (RL_l rfl (Ld_alloc (v := (.agg #[(.bool false), (.bool false), (.bool false), (.int .i64 0), (.int .i64 0), (.string ⟨#[]⟩)])) (by kernel_rfl) ?_)))
  have hg_0 := hE.size
  intro W1 he1 hz1 hB0
  replace hE := Ext.trans hE he1
  refine RL_nil (X_then (C_seq (C_region (RL_l rfl (Ld_mk Try.underlying32 Try.elt5 rfl rfl rfl (n := 32) (by omega) (by omega) (T := tU8) (a := 0) rfl (by omega) (by simp only [maxLen]; omega) ⟨by decide, by decide⟩ ?_)))))
  intro W2 hO1 he2
  replace hE := Ext.trans hE he2
  replace hB0 := hB0.ext he2
  have hs2 := he2.size
  have hn1 := hO1.ln
  have hlt1 : W1.heap.size < W2.heap.size := (hO1.own.lt' _ rfl).2
  refine RL_q rfl (Yd_str Try.underlying32 Try.underlying5 Try.underlying9 rfl (fun W hW => Rd.ext (hO1.vw).u8 hW)) (RL_q rfl (Yd_build Try.bld43 rfl rfl) (RL_l0 (Ld_store (by kernel_rfl) rfl rfl hB0 (Nat.le_of_ble_eq_true rfl) (by simp [cellsL, Value.cells, Value.oneCell']) ?_)))
  intro W3 hu3 hz3 hB0
  have hk3 := Kp.ofb hu3
  have hs3 := hk3.size
  replace hE := Ext.kp hE hk3 (fun k hk => by first | omega | (have hk := hk; dsimp only at hk; omega))
  replace hO1 := hO1.kp hk3 (fun k hk => by first | omega | (have hk := hk; dsimp only at hk; omega))
  refine RL_nil (X_then (C_ret (X_retC rfl rfl Try.underlying43 rfl (by kernel_rfl) hB0 ?_)))
  exact ⟨rfl, hE⟩
end Go.Proofs.AL
