import Derived.Test.YtfckeecfppmepaaRqy
set_option linter.unusedVariables false
set_option linter.unusedSimpArgs false
namespace Go.Proofs.AL
open Go.RowKit

def nameL : List ByteArray := [⟨#[]⟩, ⟨#[102, 101, 116, 99, 104]⟩, ⟨#[114, 101, 97, 100]⟩, ⟨#[119, 114, 105, 116, 101]⟩, ⟨#[117, 110, 112, 105, 110]⟩, ⟨#[102, 108, 117, 115, 104]⟩, ⟨#[102, 108, 117, 115, 104, 97, 108, 108]⟩, ⟨#[100, 105, 115, 99, 97, 114, 100]⟩, ⟨#[115, 116, 97, 116, 115]⟩]
def rName (op : Int) : ByteArray := if op < 1 ∨ 8 < op then ⟨#[]⟩ else nameL.getD op.toNat ⟨#[]⟩
theorem rName_out {op : Int} (h : op < 1 ∨ 8 < op) : rName op = ⟨#[]⟩ := if_pos h
def nameV : Array Value := #[.string ⟨#[]⟩, .string ⟨#[102, 101, 116, 99, 104]⟩, .string ⟨#[114, 101, 97, 100]⟩, .string ⟨#[119, 114, 105, 116, 101]⟩, .string ⟨#[117, 110, 112, 105, 110]⟩, .string ⟨#[102, 108, 117, 115, 104]⟩, .string ⟨#[102, 108, 117, 115, 104, 97, 108, 108]⟩, .string ⟨#[100, 105, 115, 99, 97, 114, 100]⟩, .string ⟨#[115, 116, 97, 116, 115]⟩]
theorem nameV_get {op : Int} (h0 : 0 ≤ op) (h1 : op < 9) : nameV[op.toNat]? = some (.string (rName op)) := by
  obtain ⟨k, rfl⟩ := Int.eq_ofNat_of_zero_le h0
  have : k < 9 := by omega
  match k, this with
  | 0, _ => rfl
  | 1, _ => rfl
  | 2, _ => rfl
  | 3, _ => rfl
  | 4, _ => rfl
  | 5, _ => rfl
  | 6, _ => rfl
  | 7, _ => rfl
  | 8, _ => rfl
theorem nameV_get2 {op : Int} (h0 : 0 ≤ op) (h1 : op < 9) : nameV.toList[op.toNat]? = some (.string (rName op)) := by simpa using nameV_get h0 h1
theorem rName_ne {op : Int} (h0 : 1 ≤ op) (h1 : op ≤ 8) : ((rName op).toList == (⟨#[]⟩ : ByteArray).toList) = false := by
  have h : op = 1 ∨ op = 2 ∨ op = 3 ∨ op = 4 ∨ op = 5 ∨ op = 6 ∨ op = 7 ∨ op = 8 := by omega
  rcases h with rfl | rfl | rfl | rfl | rfl | rfl | rfl | rfl <;> decide +kernel
/-- a request -/
structure Rq where
  op : Int
  page : Int
  off : Int
  len : Int
  A : Option Addr
  n : Nat
  c : Nat
  d : List Int
abbrev Rq.val (r : Rq) : Value := .agg #[.int .i64 r.op, .int .i64 r.page, .int .i64 r.off, .int .i64 r.len, .slice r.A r.n r.c]
structure RqAt (w : World) (lo B : Nat) (r : Rq) : Prop where
  rw_ : Rw w lo B 1 r.A r.n r.c (ints .u8 r.d)
  ln : r.d.length = r.n
  byt : Byt r.d
  cap : r.c ≤ maxLen
  op : -9223372036854775808 ≤ r.op ∧ r.op ≤ 9223372036854775807
  page : -9223372036854775808 ≤ r.page ∧ r.page ≤ 9223372036854775807
  off : -9223372036854775808 ≤ r.off ∧ r.off ≤ 9223372036854775807
  len : -9223372036854775808 ≤ r.len ∧ r.len ≤ 9223372036854775807
theorem RqAt.ext {w w' : World} {lo B : Nat} {r : Rq} (h : RqAt w lo B r) (hb : Ext w w') : RqAt w' lo B r := { h with rw_ := h.rw_.ext hb }
theorem RqAt.kp {G : Nat → Prop} {w w' : World} {lo B : Nat} {r : Rq} (h : RqAt w lo B r) (hb : Kp G w w') (hG : ∀ k, G k → k < lo ∨ B ≤ k) : RqAt w' lo B r := { h with rw_ := h.rw_.kp hb hG }
theorem RqAt.bt {g : Nat} {w w' : World} {lo B : Nat} {r : Rq} (h : RqAt w lo B r) (hb : But g w w') (hG : g < lo ∨ B ≤ g) : RqAt w' lo B r := { h with rw_ := h.rw_.bt hb hG }
theorem RqAt.more {w : World} {lo lo' B B' : Nat} {r : Rq} (h : RqAt w lo B r) (hl : lo' ≤ lo) (hB : B ≤ B') : RqAt w lo' B' r := { h with rw_ := h.rw_.more hl hB }
theorem RqAt.fit {w : World} {lo B : Nat} {r : Rq} (h : RqAt w lo B r) : RqAt w lo w.heap.size r := { h with rw_ := h.rw_.fit }
def rSame (r s : Rq) : Bool := decide (r.op = s.op) && decide (r.page = s.page) && decide (r.off = s.off) && decide (r.len = s.len) && decide (r.d = s.d)
def rCheck (r : Rq) (pages : Int) : Int :=
  if r.op < 1 ∨ 8 < r.op then 2 else
  if ((r.op = 6 ∨ r.op = 8) ∧ r.page ≠ 0) ∨ (r.op ≠ 2 ∧ r.op ≠ 3 ∧ r.off ≠ 0) ∨ (r.op ≠ 2 ∧ r.len ≠ 0) ∨ (r.op ≠ 3 ∧ 0 < r.n) then 2 else
  if r.op ≠ 6 ∧ r.op ≠ 8 ∧ (r.page < 0 ∨ pages ≤ r.page) then 4 else
  if (r.op = 2 ∨ r.op = 3) ∧ (r.off < 0 ∨ 32 < r.off) then 4 else
  if r.op = 2 ∧ (r.len < 0 ∨ 32 - r.off < r.len) then 4 else
  if r.op = 3 ∧ (32 - r.off < r.n) then 4 else 0
theorem names_c (w : World) :
    Calls Try.prog 53 #[] w fun e w' => e = .returned (.agg nameV) ∧ Ext w w' := by
  have hE := Ext.refl w
  refine calls_of (l := []) (N := 2) Try.func53 rfl rfl rfl ?_
  refine C_seq (C_region (RL_l rfl (Ld_alloc (v := (.agg #[(.string ⟨#[]⟩), (.string ⟨#[]⟩), (.string ⟨#[]⟩), (.string ⟨#[]⟩), (.string ⟨#[]⟩), (.string ⟨#[]⟩), (.string ⟨#[]⟩), (.string ⟨#[]⟩), (.string ⟨#[]⟩)])) (by kernel_rfl) ?_)))
  have hg_0 := hE.size
  intro W1 he1 hz1 hB0
  replace hE := Ext.trans hE he1
  refine RL_nil (X_then (C_seq (C_region (RL_q rfl (Yd_build Try.bld78 rfl rfl) (RL_l0 (Ld_store (by kernel_rfl) rfl rfl hB0 (Nat.le_of_ble_eq_true rfl) (by simp [cellsL, Value.cells, Value.oneCell']) ?_))))))
  intro W2 hu2 hz2 hB0
  replace hE := ext_but hE hu2 hg_0
  refine RL_nil (X_then (C_ret (X_retC rfl rfl Try.underlying78 rfl (by kernel_rfl) hB0 ?_)))
  exact ⟨rfl, hE⟩
theorem Name_c (op : Int) (w : World) :
    Calls Try.prog 41 #[.int .i64 op] w fun e w' => e = .returned (.string (rName op)) ∧ Ext w w' := by
  have hE := Ext.refl w
  refine calls_of (l := [.int .i64 op]) (N := 12) Try.func41 rfl rfl rfl ?_
  refine C_seq (C_region (RL_q rfl (Yd_assign rfl) (RL_nil (X_then (C_seq (C_seq (C_region (RL_q rfl (Yd_move rfl) (RL_q rfl (Yd_lss rfl rfl) (RL_q rfl (Yd_move rfl) (?_)))))))))))
  apply RL_or (dj := 5) 8 3 rfl
  · intro hb5
    try simp only [decide_eq_true_eq, decide_eq_false_iff_not, Bool.not_eq_true', Bool.not_eq_false', Decidable.not_not, Int.not_lt, Int.not_le, Bool.or_eq_true, Bool.and_eq_true, Bool.or_eq_false_iff, Bool.and_eq_false_iff] at hb5
    refine QL_gq rfl rfl rfl (Yd_move rfl) (QL_gq rfl rfl rfl (Yd_geq rfl rfl) (QL_q rfl (Yd_pickF rfl rfl) ((QL_nil 3 rfl rfl rfl))))
  · intro hb5
    try simp only [decide_eq_true_eq, decide_eq_false_iff_not, Bool.not_eq_true', Bool.not_eq_false', Decidable.not_not, Int.not_lt, Int.not_le, Bool.or_eq_true, Bool.and_eq_true, Bool.or_eq_false_iff, Bool.and_eq_false_iff] at hb5
    refine QL_gn rfl rfl rfl rfl (QL_gn rfl rfl rfl rfl (QL_q rfl (Yd_pickT rfl rfl) ((QL_nil 3 rfl rfl rfl))))
  · skip
    refine RL_nil (X_then (?_))
    refine C_cond rfl (fun hb8 => ?_) (fun hb8 => ?_)
    · skip
      try simp only [decide_eq_true_eq, decide_eq_false_iff_not, Bool.not_eq_true', Bool.not_eq_false', Decidable.not_not, Int.not_lt, Int.not_le, Bool.or_eq_true, Bool.and_eq_true, Bool.or_eq_false_iff, Bool.and_eq_false_iff] at hb8
      refine C_seq (C_region (RL_q rfl (Yd_assign rfl) (RL_nil (X_then (C_ret (X_thenR (X_ret1 rfl rfl ?_)))))))
      first | exact ⟨rfl, hE⟩ | exact ⟨by rw [rName_out (by omega)], hE⟩
    · skip
      try simp only [decide_eq_true_eq, decide_eq_false_iff_not, Bool.not_eq_true', Bool.not_eq_false', Decidable.not_not, Int.not_lt, Int.not_le, Bool.or_eq_true, Bool.and_eq_true, Bool.or_eq_false_iff, Bool.and_eq_false_iff] at hb8
      refine C_skip (X_then (C_seq (C_region (RL_l rfl (Ld_call Try.func53 rfl (by kernel_rfl) rfl (names_c _) ?_)))))
      rintro e W1 ⟨rfl, he1⟩
      refine ⟨_, rfl, ?_⟩
      replace hE := Ext.trans hE he1
      have hs1 := he1.size
      refine RL_q rfl (Yd_move rfl) (RL_q rfl (Yd_index Try.underlying78 (by kernel_rfl) Try.underlying9 rfl rfl rfl (by omega) (by omega) (nameV_get (by omega) (by omega))) (RL_q rfl (Yd_assign rfl) (RL_nil (X_then (C_ret (X_ret1 rfl rfl ?_))))))
      first | exact ⟨rfl, hE⟩ | exact ⟨by rw [rName_out (by omega)], hE⟩
theorem refName_c (op : Int) (w : World) :
    Calls Try.prog 42 #[.int .i64 op] w fun e w' => e = .returned (.string (rName op)) ∧ Ext w w' := by
  have hE := Ext.refl w
  refine calls_of (l := [.int .i64 op]) (N := 13) Try.func42 rfl rfl rfl ?_
  refine C_seq (C_region (RL_q rfl (Yd_assign rfl) (RL_nil (X_then (C_seq (C_seq (C_region (RL_q rfl (Yd_move rfl) (RL_q rfl (Yd_lss rfl rfl) (RL_q rfl (Yd_move rfl) (?_)))))))))))
  apply RL_or (dj := 5) 8 3 rfl
  · intro hb5
    try simp only [decide_eq_true_eq, decide_eq_false_iff_not, Bool.not_eq_true', Bool.not_eq_false', Decidable.not_not, Int.not_lt, Int.not_le, Bool.or_eq_true, Bool.and_eq_true, Bool.or_eq_false_iff, Bool.and_eq_false_iff] at hb5
    refine QL_gq rfl rfl rfl (Yd_move rfl) (QL_gq rfl rfl rfl (Yd_gtr rfl rfl) (QL_q rfl (Yd_pickF rfl rfl) ((QL_nil 3 rfl rfl rfl))))
  · intro hb5
    try simp only [decide_eq_true_eq, decide_eq_false_iff_not, Bool.not_eq_true', Bool.not_eq_false', Decidable.not_not, Int.not_lt, Int.not_le, Bool.or_eq_true, Bool.and_eq_true, Bool.or_eq_false_iff, Bool.and_eq_false_iff] at hb5
    refine QL_gn rfl rfl rfl rfl (QL_gn rfl rfl rfl rfl (QL_q rfl (Yd_pickT rfl rfl) ((QL_nil 3 rfl rfl rfl))))
  · skip
    refine RL_nil (X_then (?_))
    refine C_cond rfl (fun hb8 => ?_) (fun hb8 => ?_)
    · skip
      try simp only [decide_eq_true_eq, decide_eq_false_iff_not, Bool.not_eq_true', Bool.not_eq_false', Decidable.not_not, Int.not_lt, Int.not_le, Bool.or_eq_true, Bool.and_eq_true, Bool.or_eq_false_iff, Bool.and_eq_false_iff] at hb8
      refine C_seq (C_region (RL_q rfl (Yd_assign rfl) (RL_nil (X_then (C_ret (X_thenR (X_ret1 rfl rfl ?_)))))))
      first | exact ⟨rfl, hE⟩ | exact ⟨by rw [rName_out (by omega)], hE⟩
    · skip
      try simp only [decide_eq_true_eq, decide_eq_false_iff_not, Bool.not_eq_true', Bool.not_eq_false', Decidable.not_not, Int.not_lt, Int.not_le, Bool.or_eq_true, Bool.and_eq_true, Bool.or_eq_false_iff, Bool.and_eq_false_iff] at hb8
      refine C_skip (X_then (C_seq (C_region (RL_l rfl (Ld_lit Try.underlying80 rfl (lit_flat Try.underlying80 Try.elt9 rfl rfl ⟨rfl, by decide⟩) ?_)))))
      intro W1 he1 hz1 hL9
      replace hE := Ext.trans hE he1
      refine RL_q rfl (Yd_move rfl) (RL_q rfl (Yd_idx Try.underlying80 (sz := 1) (by kernel_rfl) rfl rfl (by omega) (by omega)) (RL_q rfl (Yd_load Try.underlying9 rfl rfl (ldK (k := op.toNat) (v := .string (rName op)) (hL9.rd (sz := 1) (n := 9) rfl) (by omega) (nameV_get2 (by omega) (by omega)) (by omega))) (RL_q rfl (Yd_assign rfl) (RL_nil (X_then (C_ret (X_ret1 rfl rfl ?_)))))))
      first | exact ⟨rfl, hE⟩ | exact ⟨by rw [rName_out (by omega)], hE⟩
theorem Equal_c (A A2 : Option Addr) (n c n2 c2 : Nat) {B B2 : Nat} (a b : List Int) (w : World) (ha : Rd w B 1 A n (ints .u8 a)) (hb : Rd w B2 1 A2 n2 (ints .u8 b)) (hya : Byt a) (hyb : Byt b) :
    Calls Try.prog 54 #[.slice A n c, .slice A2 n2 c2] w fun e w' => e = .returned (.bool (decide (a = b))) ∧ Ext w w' := by
  have hE := Ext.refl w
  refine calls_of (l := [.slice A n c, .slice A2 n2 c2]) (N := 10) Try.func54 rfl rfl rfl ?_
  refine C_seq (C_region (RL_q rfl (Yd_assign rfl) (RL_nil (X_then (C_seq (C_region (RL_q rfl (Yd_move rfl) (RL_q rfl (Yd_str Try.underlying24 Try.underlying5 Try.underlying9 rfl (fun W hW => Rd.ext ha hW)) (RL_q rfl (Yd_move rfl) (RL_q rfl (Yd_str Try.underlying24 Try.underlying5 Try.underlying9 rfl (fun W hW => Rd.ext hb hW)) (RL_q rfl (Yd_eqlS rfl rfl) (RL_q rfl (Yd_assign rfl) (RL_nil (X_then (C_ret (X_ret1 rfl rfl ?_))))))))))))))))
  exact ⟨by rw [str_dec hya hyb], hE⟩
theorem Same_c {lo B lo' B' : Nat} (r s : Rq) (w : World) (hr : RqAt w lo B r) (hs : RqAt w lo' B' s) :
    Calls Try.prog 43 #[.agg #[.int .i64 r.op, .int .i64 r.page, .int .i64 r.off, .int .i64 r.len, .slice r.A r.n r.c], .agg #[.int .i64 s.op, .int .i64 s.page, .int .i64 s.off, .int .i64 s.len, .slice s.A s.n s.c]] w fun e w' => e = .returned (.bool (rSame r s)) ∧ Ext w w' := by
  have hE := Ext.refl w
  refine calls_of (l := [.agg #[.int .i64 r.op, .int .i64 r.page, .int .i64 r.off, .int .i64 r.len, .slice r.A r.n r.c], .agg #[.int .i64 s.op, .int .i64 s.page, .int .i64 s.off, .int .i64 s.len, .slice s.A s.n s.c]]) (N := 38) Try.func43 rfl rfl rfl ?_
  refine C_seq (C_region (RL_l rfl (Ld_box rfl ?_)))
  have hg_2 := hE.size
  intro W1 he1 hz1 hB2
  replace hE := Ext.trans hE he1
  replace hr := hr.ext he1
  replace hs := hs.ext he1
  refine RL_l rfl (Ld_box rfl ?_)
  have hg_3 := hE.size
  intro W2 he2 hz2 hB3
  replace hE := Ext.trans hE he2
  replace hr := hr.ext he2
  replace hs := hs.ext he2
  replace hB2 := hB2.ext he2
  refine RL_q rfl (Yd_assign rfl) (RL_nil (X_then (C_seq (C_region (RL_q rfl (Yd_fld (off := 0) Try.underlying53 (by kernel_rfl) rfl) (RL_q rfl (Yd_load Try.underlying3 rfl rfl (ldB hB2 rfl)) (RL_q rfl (Yd_fld (off := 0) Try.underlying53 (by kernel_rfl) rfl) (RL_q rfl (Yd_load Try.underlying3 rfl rfl (ldB hB3 rfl)) (RL_q rfl (Yd_eql rfl rfl) (RL_q rfl (Yd_move rfl) (?_)))))))))))
  apply RL_and (dj := 10) 16 6 rfl
  · intro hb10
    try simp only [decide_eq_true_eq, decide_eq_false_iff_not, Bool.not_eq_true', Bool.not_eq_false', Decidable.not_not, Int.not_lt, Int.not_le, Bool.or_eq_true, Bool.and_eq_true, Bool.or_eq_false_iff, Bool.and_eq_false_iff] at hb10
    refine QL_gq rfl rfl rfl (Yd_fld (off := 1) Try.underlying53 (by kernel_rfl) rfl) (QL_gq rfl rfl rfl (Yd_load Try.underlying3 rfl rfl (ldB hB2 rfl)) (QL_gq rfl rfl rfl (Yd_fld (off := 1) Try.underlying53 (by kernel_rfl) rfl) (QL_gq rfl rfl rfl (Yd_load Try.underlying3 rfl rfl (ldB hB3 rfl)) (QL_gq rfl rfl rfl (Yd_eql rfl rfl) (QL_q rfl (Yd_pickT rfl rfl) ((QL_nil 6 rfl rfl rfl)))))))
  · intro hb10
    try simp only [decide_eq_true_eq, decide_eq_false_iff_not, Bool.not_eq_true', Bool.not_eq_false', Decidable.not_not, Int.not_lt, Int.not_le, Bool.or_eq_true, Bool.and_eq_true, Bool.or_eq_false_iff, Bool.and_eq_false_iff] at hb10
    refine QL_gn rfl rfl rfl rfl (QL_gn rfl rfl rfl rfl (QL_gn rfl rfl rfl rfl (QL_gn rfl rfl rfl rfl (QL_gn rfl rfl rfl rfl (QL_q rfl (Yd_pickF rfl rfl) ((QL_nil 6 rfl rfl rfl)))))))
  · skip
    refine RL_q rfl (Yd_move rfl) (?_)
    apply RL_and (dj := 17) 23 6 rfl
    · intro hb17
      try simp only [decide_eq_true_eq, decide_eq_false_iff_not, Bool.not_eq_true', Bool.not_eq_false', Decidable.not_not, Int.not_lt, Int.not_le, Bool.or_eq_true, Bool.and_eq_true, Bool.or_eq_false_iff, Bool.and_eq_false_iff] at hb17
      refine QL_gq rfl rfl rfl (Yd_fld (off := 2) Try.underlying53 (by kernel_rfl) rfl) (QL_gq rfl rfl rfl (Yd_load Try.underlying3 rfl rfl (ldB hB2 rfl)) (QL_gq rfl rfl rfl (Yd_fld (off := 2) Try.underlying53 (by kernel_rfl) rfl) (QL_gq rfl rfl rfl (Yd_load Try.underlying3 rfl rfl (ldB hB3 rfl)) (QL_gq rfl rfl rfl (Yd_eql rfl rfl) (QL_q rfl (Yd_pickT rfl rfl) ((QL_nil 6 rfl rfl rfl)))))))
    · intro hb17
      try simp only [decide_eq_true_eq, decide_eq_false_iff_not, Bool.not_eq_true', Bool.not_eq_false', Decidable.not_not, Int.not_lt, Int.not_le, Bool.or_eq_true, Bool.and_eq_true, Bool.or_eq_false_iff, Bool.and_eq_false_iff] at hb17
      refine QL_gn rfl rfl rfl rfl (QL_gn rfl rfl rfl rfl (QL_gn rfl rfl rfl rfl (QL_gn rfl rfl rfl rfl (QL_gn rfl rfl rfl rfl (QL_q rfl (Yd_pickF rfl rfl) ((QL_nil 6 rfl rfl rfl)))))))
    · skip
      refine RL_q rfl (Yd_move rfl) (?_)
      apply RL_and (dj := 24) 30 6 rfl
      · intro hb24
        try simp only [decide_eq_true_eq, decide_eq_false_iff_not, Bool.not_eq_true', Bool.not_eq_false', Decidable.not_not, Int.not_lt, Int.not_le, Bool.or_eq_true, Bool.and_eq_true, Bool.or_eq_false_iff, Bool.and_eq_false_iff] at hb24
        refine QL_gq rfl rfl rfl (Yd_fld (off := 3) Try.underlying53 (by kernel_rfl) rfl) (QL_gq rfl rfl rfl (Yd_load Try.underlying3 rfl rfl (ldB hB2 rfl)) (QL_gq rfl rfl rfl (Yd_fld (off := 3) Try.underlying53 (by kernel_rfl) rfl) (QL_gq rfl rfl rfl (Yd_load Try.underlying3 rfl rfl (ldB hB3 rfl)) (QL_gq rfl rfl rfl (Yd_eql rfl rfl) (QL_q rfl (Yd_pickT rfl rfl) ((QL_nil 6 rfl rfl rfl)))))))
      · intro hb24
        try simp only [decide_eq_true_eq, decide_eq_false_iff_not, Bool.not_eq_true', Bool.not_eq_false', Decidable.not_not, Int.not_lt, Int.not_le, Bool.or_eq_true, Bool.and_eq_true, Bool.or_eq_false_iff, Bool.and_eq_false_iff] at hb24
        refine QL_gn rfl rfl rfl rfl (QL_gn rfl rfl rfl rfl (QL_gn rfl rfl rfl rfl (QL_gn rfl rfl rfl rfl (QL_gn rfl rfl rfl rfl (QL_q rfl (Yd_pickF rfl rfl) ((QL_nil 6 rfl rfl rfl)))))))
      · skip
        refine RL_q rfl (Yd_move rfl) (?_)
        refine RL_case (d := 31) rfl (fun hb31 => ?_) (fun hb31 => ?_)
        · skip
          try simp only [decide_eq_true_eq, decide_eq_false_iff_not, Bool.not_eq_true', Bool.not_eq_false', Decidable.not_not, Int.not_lt, Int.not_le, Bool.or_eq_true, Bool.and_eq_true, Bool.or_eq_false_iff, Bool.and_eq_false_iff] at hb31
          refine RL_gq rfl rfl rfl (Yd_fld (off := 4) Try.underlying53 (by kernel_rfl) rfl) (RL_gq rfl rfl rfl (Yd_load Try.underlying24 rfl rfl (ldB hB2 rfl)) (RL_gq rfl rfl rfl (Yd_fld (off := 4) Try.underlying53 (by kernel_rfl) rfl) (RL_gq rfl rfl rfl (Yd_load Try.underlying24 rfl rfl (ldB hB3 rfl)) (RL_gl rfl rfl rfl (Ld_call Try.func54 rfl (by kernel_rfl) rfl (Equal_c _ _ _ _ _ _ r.d s.d _ hr.rw_.rd hs.rw_.rd hr.byt hs.byt) ?_)))))
          rintro e W3 ⟨rfl, he3⟩
          refine ⟨_, rfl, ?_⟩
          replace hE := Ext.trans hE he3
          replace hr := hr.ext he3
          replace hs := hs.ext he3
          replace hB2 := hB2.ext he3
          replace hB3 := hB3.ext he3
          have hs3 := he3.size
          refine RL_q rfl (Yd_pickT rfl rfl) (RL_q rfl (Yd_assign rfl) (RL_nil (X_then (C_ret (X_ret1 rfl rfl ?_)))))
          exact ⟨by simp only [rSame, hb31, decide_true, Bool.true_and], hE⟩
        · skip
          try simp only [decide_eq_true_eq, decide_eq_false_iff_not, Bool.not_eq_true', Bool.not_eq_false', Decidable.not_not, Int.not_lt, Int.not_le, Bool.or_eq_true, Bool.and_eq_true, Bool.or_eq_false_iff, Bool.and_eq_false_iff] at hb31
          refine RL_gn rfl rfl rfl rfl (RL_gn rfl rfl rfl rfl (RL_gn rfl rfl rfl rfl (RL_gn rfl rfl rfl rfl (RL_gn rfl rfl rfl rfl (RL_q rfl (Yd_pickF rfl rfl) (RL_q rfl (Yd_assign rfl) (RL_nil (X_then (C_ret (X_ret1 rfl rfl ?_))))))))))
          refine ⟨?_, hE⟩
          rw [show rSame r s = false from by simp only [rSame, Bool.and_eq_false_iff, decide_eq_false_iff_not]; exact .inl hb31]
theorem refSame_c {lo B lo' B' : Nat} (r s : Rq) (w : World) (hr : RqAt w lo B r) (hs : RqAt w lo' B' s) :
    Calls Try.prog 44 #[.agg #[.int .i64 r.op, .int .i64 r.page, .int .i64 r.off, .int .i64 r.len, .slice r.A r.n r.c], .agg #[.int .i64 s.op, .int .i64 s.page, .int .i64 s.off, .int .i64 s.len, .slice s.A s.n s.c]] w fun e w' => e = .returned (.bool (rSame r s)) ∧ Ext w w' := by
  have hE := Ext.refl w
  refine calls_of (l := [.agg #[.int .i64 r.op, .int .i64 r.page, .int .i64 r.off, .int .i64 r.len, .slice r.A r.n r.c], .agg #[.int .i64 s.op, .int .i64 s.page, .int .i64 s.off, .int .i64 s.len, .slice s.A s.n s.c]]) (N := 40) Try.func44 rfl rfl rfl ?_
  refine C_seq (C_region (RL_l rfl (Ld_box rfl ?_)))
  have hg_2 := hE.size
  intro W1 he1 hz1 hB2
  replace hE := Ext.trans hE he1
  replace hr := hr.ext he1
  replace hs := hs.ext he1
  refine RL_l rfl (Ld_box rfl ?_)
  have hg_3 := hE.size
  intro W2 he2 hz2 hB3
  replace hE := Ext.trans hE he2
  replace hr := hr.ext he2
  replace hs := hs.ext he2
  replace hB2 := hB2.ext he2
  refine RL_q rfl (Yd_assign rfl) (RL_nil (X_then (C_seq (C_region (RL_q rfl (Yd_fld (off := 0) Try.underlying53 (by kernel_rfl) rfl) (RL_q rfl (Yd_load Try.underlying3 rfl rfl (ldB hB2 rfl)) (RL_q rfl (Yd_fld (off := 0) Try.underlying53 (by kernel_rfl) rfl) (RL_q rfl (Yd_load Try.underlying3 rfl rfl (ldB hB3 rfl)) (RL_q rfl (Yd_eql rfl rfl) (RL_q rfl (Yd_move rfl) (?_)))))))))))
  apply RL_and (dj := 10) 16 6 rfl
  · intro hb10
    try simp only [decide_eq_true_eq, decide_eq_false_iff_not, Bool.not_eq_true', Bool.not_eq_false', Decidable.not_not, Int.not_lt, Int.not_le, Bool.or_eq_true, Bool.and_eq_true, Bool.or_eq_false_iff, Bool.and_eq_false_iff] at hb10
    refine QL_gq rfl rfl rfl (Yd_fld (off := 1) Try.underlying53 (by kernel_rfl) rfl) (QL_gq rfl rfl rfl (Yd_load Try.underlying3 rfl rfl (ldB hB2 rfl)) (QL_gq rfl rfl rfl (Yd_fld (off := 1) Try.underlying53 (by kernel_rfl) rfl) (QL_gq rfl rfl rfl (Yd_load Try.underlying3 rfl rfl (ldB hB3 rfl)) (QL_gq rfl rfl rfl (Yd_eql rfl rfl) (QL_q rfl (Yd_pickT rfl rfl) ((QL_nil 6 rfl rfl rfl)))))))
  · intro hb10
    try simp only [decide_eq_true_eq, decide_eq_false_iff_not, Bool.not_eq_true', Bool.not_eq_false', Decidable.not_not, Int.not_lt, Int.not_le, Bool.or_eq_true, Bool.and_eq_true, Bool.or_eq_false_iff, Bool.and_eq_false_iff] at hb10
    refine QL_gn rfl rfl rfl rfl (QL_gn rfl rfl rfl rfl (QL_gn rfl rfl rfl rfl (QL_gn rfl rfl rfl rfl (QL_gn rfl rfl rfl rfl (QL_q rfl (Yd_pickF rfl rfl) ((QL_nil 6 rfl rfl rfl)))))))
  · skip
    refine RL_q rfl (Yd_move rfl) (?_)
    apply RL_and (dj := 17) 23 6 rfl
    · intro hb17
      try simp only [decide_eq_true_eq, decide_eq_false_iff_not, Bool.not_eq_true', Bool.not_eq_false', Decidable.not_not, Int.not_lt, Int.not_le, Bool.or_eq_true, Bool.and_eq_true, Bool.or_eq_false_iff, Bool.and_eq_false_iff] at hb17
      refine QL_gq rfl rfl rfl (Yd_fld (off := 2) Try.underlying53 (by kernel_rfl) rfl) (QL_gq rfl rfl rfl (Yd_load Try.underlying3 rfl rfl (ldB hB2 rfl)) (QL_gq rfl rfl rfl (Yd_fld (off := 2) Try.underlying53 (by kernel_rfl) rfl) (QL_gq rfl rfl rfl (Yd_load Try.underlying3 rfl rfl (ldB hB3 rfl)) (QL_gq rfl rfl rfl (Yd_eql rfl rfl) (QL_q rfl (Yd_pickT rfl rfl) ((QL_nil 6 rfl rfl rfl)))))))
    · intro hb17
      try simp only [decide_eq_true_eq, decide_eq_false_iff_not, Bool.not_eq_true', Bool.not_eq_false', Decidable.not_not, Int.not_lt, Int.not_le, Bool.or_eq_true, Bool.and_eq_true, Bool.or_eq_false_iff, Bool.and_eq_false_iff] at hb17
      refine QL_gn rfl rfl rfl rfl (QL_gn rfl rfl rfl rfl (QL_gn rfl rfl rfl rfl (QL_gn rfl rfl rfl rfl (QL_gn rfl rfl rfl rfl (QL_q rfl (Yd_pickF rfl rfl) ((QL_nil 6 rfl rfl rfl)))))))
    · skip
      refine RL_q rfl (Yd_move rfl) (?_)
      apply RL_and (dj := 24) 30 6 rfl
      · intro hb24
        try simp only [decide_eq_true_eq, decide_eq_false_iff_not, Bool.not_eq_true', Bool.not_eq_false', Decidable.not_not, Int.not_lt, Int.not_le, Bool.or_eq_true, Bool.and_eq_true, Bool.or_eq_false_iff, Bool.and_eq_false_iff] at hb24
        refine QL_gq rfl rfl rfl (Yd_fld (off := 3) Try.underlying53 (by kernel_rfl) rfl) (QL_gq rfl rfl rfl (Yd_load Try.underlying3 rfl rfl (ldB hB2 rfl)) (QL_gq rfl rfl rfl (Yd_fld (off := 3) Try.underlying53 (by kernel_rfl) rfl) (QL_gq rfl rfl rfl (Yd_load Try.underlying3 rfl rfl (ldB hB3 rfl)) (QL_gq rfl rfl rfl (Yd_eql rfl rfl) (QL_q rfl (Yd_pickT rfl rfl) ((QL_nil 6 rfl rfl rfl)))))))
      · intro hb24
        try simp only [decide_eq_true_eq, decide_eq_false_iff_not, Bool.not_eq_true', Bool.not_eq_false', Decidable.not_not, Int.not_lt, Int.not_le, Bool.or_eq_true, Bool.and_eq_true, Bool.or_eq_false_iff, Bool.and_eq_false_iff] at hb24
        refine QL_gn rfl rfl rfl rfl (QL_gn rfl rfl rfl rfl (QL_gn rfl rfl rfl rfl (QL_gn rfl rfl rfl rfl (QL_gn rfl rfl rfl rfl (QL_q rfl (Yd_pickF rfl rfl) ((QL_nil 6 rfl rfl rfl)))))))
      · skip
        refine RL_q rfl (Yd_move rfl) (?_)
        apply RL_and (dj := 31) 39 8 rfl
        · intro hb31
          try simp only [decide_eq_true_eq, decide_eq_false_iff_not, Bool.not_eq_true', Bool.not_eq_false', Decidable.not_not, Int.not_lt, Int.not_le, Bool.or_eq_true, Bool.and_eq_true, Bool.or_eq_false_iff, Bool.and_eq_false_iff] at hb31
          refine QL_gq rfl rfl rfl (Yd_fld (off := 4) Try.underlying53 (by kernel_rfl) rfl) (QL_gq rfl rfl rfl (Yd_load Try.underlying24 rfl rfl (ldB hB2 rfl)) (QL_gq rfl rfl rfl (Yd_str Try.underlying24 Try.underlying5 Try.underlying9 rfl (fun W hW => Rd.ext hr.rw_.rd hW)) (QL_gq rfl rfl rfl (Yd_fld (off := 4) Try.underlying53 (by kernel_rfl) rfl) (QL_gq rfl rfl rfl (Yd_load Try.underlying24 rfl rfl (ldB hB3 rfl)) (QL_gq rfl rfl rfl (Yd_str Try.underlying24 Try.underlying5 Try.underlying9 rfl (fun W hW => Rd.ext hs.rw_.rd hW)) (QL_gq rfl rfl rfl (Yd_eqlS rfl rfl) (QL_q rfl (Yd_pickT rfl rfl) ((QL_nil 8 rfl rfl rfl)))))))))
        · intro hb31
          try simp only [decide_eq_true_eq, decide_eq_false_iff_not, Bool.not_eq_true', Bool.not_eq_false', Decidable.not_not, Int.not_lt, Int.not_le, Bool.or_eq_true, Bool.and_eq_true, Bool.or_eq_false_iff, Bool.and_eq_false_iff] at hb31
          refine QL_gn rfl rfl rfl rfl (QL_gn rfl rfl rfl rfl (QL_gn rfl rfl rfl rfl (QL_gn rfl rfl rfl rfl (QL_gn rfl rfl rfl rfl (QL_gn rfl rfl rfl rfl (QL_gn rfl rfl rfl rfl (QL_q rfl (Yd_pickF rfl rfl) ((QL_nil 8 rfl rfl rfl)))))))))
        · skip
          refine RL_q rfl (Yd_assign rfl) (RL_nil (X_then (C_ret (X_ret1 rfl rfl ?_))))
          exact ⟨by rw [str_dec hr.byt hs.byt]; rfl, hE⟩
theorem refCheck_c {lo B : Nat} (r : Rq) (pages : Int) (w : World) (hr : RqAt w lo B r) :
    Calls Try.prog 39 #[.agg #[.int .i64 r.op, .int .i64 r.page, .int .i64 r.off, .int .i64 r.len, .slice r.A r.n r.c], .int .i64 pages] w fun e w' => e = .returned (.int .i64 (rCheck r pages)) ∧ Ext w w' := by
  have hE := Ext.refl w
  refine calls_of (l := [.agg #[.int .i64 r.op, .int .i64 r.page, .int .i64 r.off, .int .i64 r.len, .slice r.A r.n r.c], .int .i64 pages]) (N := 119) Try.func39 rfl rfl rfl ?_
  refine C_seq (C_region (RL_l rfl (Ld_box rfl ?_)))
  have hg_2 := hE.size
  intro W1 he1 hz1 hB2
  replace hE := Ext.trans hE he1
  replace hr := hr.ext he1
  refine RL_q rfl (Yd_assign rfl) (RL_nil (X_then (C_seq (C_seq (C_region (RL_q rfl (Yd_fld (off := 0) Try.underlying53 (by kernel_rfl) rfl) (RL_q rfl (Yd_load Try.underlying3 rfl rfl (ldB hB2 rfl)) (RL_q rfl (Yd_lss rfl rfl) (RL_q rfl (Yd_move rfl) (?_))))))))))
  apply RL_or (dj := 10) 14 4 rfl
  · intro hb10
    try simp only [decide_eq_true_eq, decide_eq_false_iff_not, Bool.not_eq_true', Bool.not_eq_false', Decidable.not_not, Int.not_lt, Int.not_le, Bool.or_eq_true, Bool.and_eq_true, Bool.or_eq_false_iff, Bool.and_eq_false_iff] at hb10
    refine QL_gq rfl rfl rfl (Yd_fld (off := 0) Try.underlying53 (by kernel_rfl) rfl) (QL_gq rfl rfl rfl (Yd_load Try.underlying3 rfl rfl (ldB hB2 rfl)) (QL_gq rfl rfl rfl (Yd_gtr rfl rfl) (QL_q rfl (Yd_pickF rfl rfl) ((QL_nil 4 rfl rfl rfl)))))
  · intro hb10
    try simp only [decide_eq_true_eq, decide_eq_false_iff_not, Bool.not_eq_true', Bool.not_eq_false', Decidable.not_not, Int.not_lt, Int.not_le, Bool.or_eq_true, Bool.and_eq_true, Bool.or_eq_false_iff, Bool.and_eq_false_iff] at hb10
    refine QL_gn rfl rfl rfl rfl (QL_gn rfl rfl rfl rfl (QL_gn rfl rfl rfl rfl (QL_q rfl (Yd_pickT rfl rfl) ((QL_nil 4 rfl rfl rfl)))))
  · skip
    refine RL_nil (X_then (?_))
    refine C_cond rfl (fun hb14 => ?_) (fun hb14 => ?_)
    · skip
      try simp only [decide_eq_true_eq, decide_eq_false_iff_not, Bool.not_eq_true', Bool.not_eq_false', Decidable.not_not, Int.not_lt, Int.not_le, Bool.or_eq_true, Bool.and_eq_true, Bool.or_eq_false_iff, Bool.and_eq_false_iff] at hb14
      refine C_seq (C_region (RL_q rfl (Yd_assign rfl) (RL_nil (X_then (C_ret (X_thenR (X_ret1 rfl rfl ?_)))))))
      refine ⟨congrArg (fun n => Ending.returned (.int .i64 n)) ?_, hE⟩
      unfold rCheck
      repeat' split
      all_goals first | rfl | omega
    · skip
      try simp only [decide_eq_true_eq, decide_eq_false_iff_not, Bool.not_eq_true', Bool.not_eq_false', Decidable.not_not, Int.not_lt, Int.not_le, Bool.or_eq_true, Bool.and_eq_true, Bool.or_eq_false_iff, Bool.and_eq_false_iff] at hb14
      refine C_skip (X_then (C_seq (C_region (RL_q rfl (Yd_fld (off := 0) Try.underlying53 (by kernel_rfl) rfl) (RL_q rfl (Yd_load Try.underlying3 rfl rfl (ldB hB2 rfl)) (RL_q rfl (Yd_neq rfl rfl) (RL_q rfl (Yd_move rfl) (?_))))))))
      apply RL_and (dj := 18) 22 4 rfl
      · intro hb18
        try simp only [decide_eq_true_eq, decide_eq_false_iff_not, Bool.not_eq_true', Bool.not_eq_false', Decidable.not_not, Int.not_lt, Int.not_le, Bool.or_eq_true, Bool.and_eq_true, Bool.or_eq_false_iff, Bool.and_eq_false_iff] at hb18
        refine QL_gq rfl rfl rfl (Yd_fld (off := 0) Try.underlying53 (by kernel_rfl) rfl) (QL_gq rfl rfl rfl (Yd_load Try.underlying3 rfl rfl (ldB hB2 rfl)) (QL_gq rfl rfl rfl (Yd_neq rfl rfl) (QL_q rfl (Yd_pickT rfl rfl) ((QL_nil 4 rfl rfl rfl)))))
      · intro hb18
        try simp only [decide_eq_true_eq, decide_eq_false_iff_not, Bool.not_eq_true', Bool.not_eq_false', Decidable.not_not, Int.not_lt, Int.not_le, Bool.or_eq_true, Bool.and_eq_true, Bool.or_eq_false_iff, Bool.and_eq_false_iff] at hb18
        refine QL_gn rfl rfl rfl rfl (QL_gn rfl rfl rfl rfl (QL_gn rfl rfl rfl rfl (QL_q rfl (Yd_pickF rfl rfl) ((QL_nil 4 rfl rfl rfl)))))
      · skip
        refine RL_q rfl (Yd_assign rfl) (RL_nil (X_then (C_seq (C_region (RL_q rfl (Yd_fld (off := 0) Try.underlying53 (by kernel_rfl) rfl) (RL_q rfl (Yd_load Try.underlying3 rfl rfl (ldB hB2 rfl)) (RL_q rfl (Yd_eql rfl rfl) (RL_q rfl (Yd_move rfl) (?_)))))))))
        apply RL_or (dj := 26) 30 4 rfl
        · intro hb26
          try simp only [decide_eq_true_eq, decide_eq_false_iff_not, Bool.not_eq_true', Bool.not_eq_false', Decidable.not_not, Int.not_lt, Int.not_le, Bool.or_eq_true, Bool.and_eq_true, Bool.or_eq_false_iff, Bool.and_eq_false_iff] at hb26
          refine QL_gq rfl rfl rfl (Yd_fld (off := 0) Try.underlying53 (by kernel_rfl) rfl) (QL_gq rfl rfl rfl (Yd_load Try.underlying3 rfl rfl (ldB hB2 rfl)) (QL_gq rfl rfl rfl (Yd_eql rfl rfl) (QL_q rfl (Yd_pickF rfl rfl) ((QL_nil 4 rfl rfl rfl)))))
        · intro hb26
          try simp only [decide_eq_true_eq, decide_eq_false_iff_not, Bool.not_eq_true', Bool.not_eq_false', Decidable.not_not, Int.not_lt, Int.not_le, Bool.or_eq_true, Bool.and_eq_true, Bool.or_eq_false_iff, Bool.and_eq_false_iff] at hb26
          refine QL_gn rfl rfl rfl rfl (QL_gn rfl rfl rfl rfl (QL_gn rfl rfl rfl rfl (QL_q rfl (Yd_pickT rfl rfl) ((QL_nil 4 rfl rfl rfl)))))
        · skip
          refine RL_q rfl (Yd_assign rfl) (RL_nil (X_then (C_seq (C_seq (C_region (RL_q rfl (Yd_move rfl) (RL_q rfl (Yd_not rfl) (RL_q rfl (Yd_move rfl) (?_)))))))))
          apply RL_and (dj := 33) 37 4 rfl
          · intro hb33
            try simp only [decide_eq_true_eq, decide_eq_false_iff_not, Bool.not_eq_true', Bool.not_eq_false', Decidable.not_not, Int.not_lt, Int.not_le, Bool.or_eq_true, Bool.and_eq_true, Bool.or_eq_false_iff, Bool.and_eq_false_iff] at hb33
            refine QL_gq rfl rfl rfl (Yd_fld (off := 1) Try.underlying53 (by kernel_rfl) rfl) (QL_gq rfl rfl rfl (Yd_load Try.underlying3 rfl rfl (ldB hB2 rfl)) (QL_gq rfl rfl rfl (Yd_neq rfl rfl) (QL_q rfl (Yd_pickT rfl rfl) ((QL_nil 4 rfl rfl rfl)))))
          · intro hb33
            try simp only [decide_eq_true_eq, decide_eq_false_iff_not, Bool.not_eq_true', Bool.not_eq_false', Decidable.not_not, Int.not_lt, Int.not_le, Bool.or_eq_true, Bool.and_eq_true, Bool.or_eq_false_iff, Bool.and_eq_false_iff] at hb33
            refine QL_gn rfl rfl rfl rfl (QL_gn rfl rfl rfl rfl (QL_gn rfl rfl rfl rfl (QL_q rfl (Yd_pickF rfl rfl) ((QL_nil 4 rfl rfl rfl)))))
          · skip
            refine RL_q rfl (Yd_move rfl) (?_)
            apply RL_or (dj := 38) 46 8 rfl
            · intro hb38
              try simp only [decide_eq_true_eq, decide_eq_false_iff_not, Bool.not_eq_true', Bool.not_eq_false', Decidable.not_not, Int.not_lt, Int.not_le, Bool.or_eq_true, Bool.and_eq_true, Bool.or_eq_false_iff, Bool.and_eq_false_iff] at hb38
              refine QL_gq rfl rfl rfl (Yd_move rfl) (QL_gq rfl rfl rfl (Yd_not rfl) (QL_gq rfl rfl rfl (Yd_move rfl) (?_)))
              apply QL_and (dj := 41) 45 4 rfl
              · intro hb41
                try simp only [decide_eq_true_eq, decide_eq_false_iff_not, Bool.not_eq_true', Bool.not_eq_false', Decidable.not_not, Int.not_lt, Int.not_le, Bool.or_eq_true, Bool.and_eq_true, Bool.or_eq_false_iff, Bool.and_eq_false_iff] at hb41
                refine QL_gq rfl rfl rfl (Yd_fld (off := 2) Try.underlying53 (by kernel_rfl) rfl) (QL_gq rfl rfl rfl (Yd_load Try.underlying3 rfl rfl (ldB hB2 rfl)) (QL_gq rfl rfl rfl (Yd_neq rfl rfl) (QL_gq rfl rfl rfl (Yd_pickT rfl rfl) ((QL_nil 4 rfl rfl rfl)))))
              · intro hb41
                try simp only [decide_eq_true_eq, decide_eq_false_iff_not, Bool.not_eq_true', Bool.not_eq_false', Decidable.not_not, Int.not_lt, Int.not_le, Bool.or_eq_true, Bool.and_eq_true, Bool.or_eq_false_iff, Bool.and_eq_false_iff] at hb41
                refine QL_gn rfl rfl rfl rfl (QL_gn rfl rfl rfl rfl (QL_gn rfl rfl rfl rfl (QL_gq rfl rfl rfl (Yd_pickF rfl rfl) ((QL_nil 4 rfl rfl rfl)))))
              · skip
                refine QL_q rfl (Yd_pickF rfl rfl) ((QL_nil 5 rfl rfl rfl))
            · intro hb38
              try simp only [decide_eq_true_eq, decide_eq_false_iff_not, Bool.not_eq_true', Bool.not_eq_false', Decidable.not_not, Int.not_lt, Int.not_le, Bool.or_eq_true, Bool.and_eq_true, Bool.or_eq_false_iff, Bool.and_eq_false_iff] at hb38
              refine QL_gn rfl rfl rfl rfl (QL_gn rfl rfl rfl rfl (QL_gn rfl rfl rfl rfl (QL_gu rfl rfl rfl (QL_gu rfl rfl rfl (QL_gu rfl rfl rfl (QL_gn rfl rfl rfl rfl (QL_q rfl (Yd_pickT rfl rfl) ((QL_nil 8 rfl rfl rfl)))))))))
            · skip
              refine RL_q rfl (Yd_move rfl) (?_)
              apply RL_or (dj := 47) 56 9 rfl
              · intro hb47
                try simp only [decide_eq_true_eq, decide_eq_false_iff_not, Bool.not_eq_true', Bool.not_eq_false', Decidable.not_not, Int.not_lt, Int.not_le, Bool.or_eq_true, Bool.and_eq_true, Bool.or_eq_false_iff, Bool.and_eq_false_iff] at hb47
                refine QL_gq rfl rfl rfl (Yd_fld (off := 0) Try.underlying53 (by kernel_rfl) rfl) (QL_gq rfl rfl rfl (Yd_load Try.underlying3 rfl rfl (ldB hB2 rfl)) (QL_gq rfl rfl rfl (Yd_neq rfl rfl) (QL_gq rfl rfl rfl (Yd_move rfl) (?_))))
                apply QL_and (dj := 51) 55 4 rfl
                · intro hb51
                  try simp only [decide_eq_true_eq, decide_eq_false_iff_not, Bool.not_eq_true', Bool.not_eq_false', Decidable.not_not, Int.not_lt, Int.not_le, Bool.or_eq_true, Bool.and_eq_true, Bool.or_eq_false_iff, Bool.and_eq_false_iff] at hb51
                  refine QL_gq rfl rfl rfl (Yd_fld (off := 3) Try.underlying53 (by kernel_rfl) rfl) (QL_gq rfl rfl rfl (Yd_load Try.underlying3 rfl rfl (ldB hB2 rfl)) (QL_gq rfl rfl rfl (Yd_neq rfl rfl) (QL_gq rfl rfl rfl (Yd_pickT rfl rfl) ((QL_nil 4 rfl rfl rfl)))))
                · intro hb51
                  try simp only [decide_eq_true_eq, decide_eq_false_iff_not, Bool.not_eq_true', Bool.not_eq_false', Decidable.not_not, Int.not_lt, Int.not_le, Bool.or_eq_true, Bool.and_eq_true, Bool.or_eq_false_iff, Bool.and_eq_false_iff] at hb51
                  refine QL_gn rfl rfl rfl rfl (QL_gn rfl rfl rfl rfl (QL_gn rfl rfl rfl rfl (QL_gq rfl rfl rfl (Yd_pickF rfl rfl) ((QL_nil 4 rfl rfl rfl)))))
                · skip
                  refine QL_q rfl (Yd_pickF rfl rfl) ((QL_nil 6 rfl rfl rfl))
              · intro hb47
                try simp only [decide_eq_true_eq, decide_eq_false_iff_not, Bool.not_eq_true', Bool.not_eq_false', Decidable.not_not, Int.not_lt, Int.not_le, Bool.or_eq_true, Bool.and_eq_true, Bool.or_eq_false_iff, Bool.and_eq_false_iff] at hb47
                refine QL_gn rfl rfl rfl rfl (QL_gn rfl rfl rfl rfl (QL_gn rfl rfl rfl rfl (QL_gn rfl rfl rfl rfl (QL_gu rfl rfl rfl (QL_gu rfl rfl rfl (QL_gu rfl rfl rfl (QL_gn rfl rfl rfl rfl (QL_q rfl (Yd_pickT rfl rfl) ((QL_nil 9 rfl rfl rfl))))))))))
              · skip
                refine RL_q rfl (Yd_move rfl) (?_)
                apply RL_or (dj := 57) 67 10 rfl
                · intro hb57
                  try simp only [decide_eq_true_eq, decide_eq_false_iff_not, Bool.not_eq_true', Bool.not_eq_false', Decidable.not_not, Int.not_lt, Int.not_le, Bool.or_eq_true, Bool.and_eq_true, Bool.or_eq_false_iff, Bool.and_eq_false_iff] at hb57
                  refine QL_gq rfl rfl rfl (Yd_fld (off := 0) Try.underlying53 (by kernel_rfl) rfl) (QL_gq rfl rfl rfl (Yd_load Try.underlying3 rfl rfl (ldB hB2 rfl)) (QL_gq rfl rfl rfl (Yd_neq rfl rfl) (QL_gq rfl rfl rfl (Yd_move rfl) (?_))))
                  apply QL_and (dj := 61) 66 5 rfl
                  · intro hb61
                    try simp only [decide_eq_true_eq, decide_eq_false_iff_not, Bool.not_eq_true', Bool.not_eq_false', Decidable.not_not, Int.not_lt, Int.not_le, Bool.or_eq_true, Bool.and_eq_true, Bool.or_eq_false_iff, Bool.and_eq_false_iff] at hb61
                    refine QL_gq rfl rfl rfl (Yd_fld (off := 4) Try.underlying53 (by kernel_rfl) rfl) (QL_gq rfl rfl rfl (Yd_load Try.underlying24 rfl rfl (ldB hB2 rfl)) (QL_gq rfl rfl rfl (Yd_len Try.underlying24 rfl) (QL_gq rfl rfl rfl (Yd_gtr rfl rfl) (QL_gq rfl rfl rfl (Yd_pickT rfl rfl) ((QL_nil 5 rfl rfl rfl))))))
                  · intro hb61
                    try simp only [decide_eq_true_eq, decide_eq_false_iff_not, Bool.not_eq_true', Bool.not_eq_false', Decidable.not_not, Int.not_lt, Int.not_le, Bool.or_eq_true, Bool.and_eq_true, Bool.or_eq_false_iff, Bool.and_eq_false_iff] at hb61
                    refine QL_gn rfl rfl rfl rfl (QL_gn rfl rfl rfl rfl (QL_gn rfl rfl rfl rfl (QL_gn rfl rfl rfl rfl (QL_gq rfl rfl rfl (Yd_pickF rfl rfl) ((QL_nil 5 rfl rfl rfl))))))
                  · skip
                    refine QL_q rfl (Yd_pickF rfl rfl) ((QL_nil 6 rfl rfl rfl))
                · intro hb57
                  try simp only [decide_eq_true_eq, decide_eq_false_iff_not, Bool.not_eq_true', Bool.not_eq_false', Decidable.not_not, Int.not_lt, Int.not_le, Bool.or_eq_true, Bool.and_eq_true, Bool.or_eq_false_iff, Bool.and_eq_false_iff] at hb57
                  refine QL_gn rfl rfl rfl rfl (QL_gn rfl rfl rfl rfl (QL_gn rfl rfl rfl rfl (QL_gn rfl rfl rfl rfl (QL_gu rfl rfl rfl (QL_gu rfl rfl rfl (QL_gu rfl rfl rfl (QL_gu rfl rfl rfl (QL_gn rfl rfl rfl rfl (QL_q rfl (Yd_pickT rfl rfl) ((QL_nil 10 rfl rfl rfl)))))))))))
                · skip
                  refine RL_nil (X_then (?_))
                  refine C_cond rfl (fun hb67 => ?_) (fun hb67 => ?_)
                  · skip
                    try simp only [decide_eq_true_eq, decide_eq_false_iff_not, Bool.not_eq_true', Bool.not_eq_false', Decidable.not_not, Int.not_lt, Int.not_le, Bool.or_eq_true, Bool.and_eq_true, Bool.or_eq_false_iff, Bool.and_eq_false_iff] at hb67
                    refine C_seq (C_region (RL_q rfl (Yd_assign rfl) (RL_nil (X_then (C_ret (X_thenR (X_ret1 rfl rfl ?_)))))))
                    refine ⟨congrArg (fun n => Ending.returned (.int .i64 n)) ?_, hE⟩
                    unfold rCheck
                    repeat' split
                    all_goals first | rfl | omega
                  · skip
                    try simp only [decide_eq_true_eq, decide_eq_false_iff_not, Bool.not_eq_true', Bool.not_eq_false', Decidable.not_not, Int.not_lt, Int.not_le, Bool.or_eq_true, Bool.and_eq_true, Bool.or_eq_false_iff, Bool.and_eq_false_iff] at hb67
                    refine C_skip (X_then (C_seq (C_seq (C_region (RL_q rfl (Yd_move rfl) (RL_q rfl (Yd_move rfl) (?_)))))))
                    apply RL_and (dj := 69) 79 10 rfl
                    · intro hb69
                      try simp only [decide_eq_true_eq, decide_eq_false_iff_not, Bool.not_eq_true', Bool.not_eq_false', Decidable.not_not, Int.not_lt, Int.not_le, Bool.or_eq_true, Bool.and_eq_true, Bool.or_eq_false_iff, Bool.and_eq_false_iff] at hb69
                      refine QL_gq rfl rfl rfl (Yd_fld (off := 1) Try.underlying53 (by kernel_rfl) rfl) (QL_gq rfl rfl rfl (Yd_load Try.underlying3 rfl rfl (ldB hB2 rfl)) (QL_gq rfl rfl rfl (Yd_lss rfl rfl) (QL_gq rfl rfl rfl (Yd_move rfl) (?_))))
                      apply QL_or (dj := 73) 78 5 rfl
                      · intro hb73
                        try simp only [decide_eq_true_eq, decide_eq_false_iff_not, Bool.not_eq_true', Bool.not_eq_false', Decidable.not_not, Int.not_lt, Int.not_le, Bool.or_eq_true, Bool.and_eq_true, Bool.or_eq_false_iff, Bool.and_eq_false_iff] at hb73
                        refine QL_gq rfl rfl rfl (Yd_fld (off := 1) Try.underlying53 (by kernel_rfl) rfl) (QL_gq rfl rfl rfl (Yd_load Try.underlying3 rfl rfl (ldB hB2 rfl)) (QL_gq rfl rfl rfl (Yd_move rfl) (QL_gq rfl rfl rfl (Yd_geq rfl rfl) (QL_gq rfl rfl rfl (Yd_pickF rfl rfl) ((QL_nil 5 rfl rfl rfl))))))
                      · intro hb73
                        try simp only [decide_eq_true_eq, decide_eq_false_iff_not, Bool.not_eq_true', Bool.not_eq_false', Decidable.not_not, Int.not_lt, Int.not_le, Bool.or_eq_true, Bool.and_eq_true, Bool.or_eq_false_iff, Bool.and_eq_false_iff] at hb73
                        refine QL_gn rfl rfl rfl rfl (QL_gn rfl rfl rfl rfl (QL_gn rfl rfl rfl rfl (QL_gn rfl rfl rfl rfl (QL_gq rfl rfl rfl (Yd_pickT rfl rfl) ((QL_nil 5 rfl rfl rfl))))))
                      · skip
                        refine QL_q rfl (Yd_pickT rfl rfl) ((QL_nil 6 rfl rfl rfl))
                    · intro hb69
                      try simp only [decide_eq_true_eq, decide_eq_false_iff_not, Bool.not_eq_true', Bool.not_eq_false', Decidable.not_not, Int.not_lt, Int.not_le, Bool.or_eq_true, Bool.and_eq_true, Bool.or_eq_false_iff, Bool.and_eq_false_iff] at hb69
                      refine QL_gn rfl rfl rfl rfl (QL_gn rfl rfl rfl rfl (QL_gn rfl rfl rfl rfl (QL_gn rfl rfl rfl rfl (QL_gu rfl rfl rfl (QL_gu rfl rfl rfl (QL_gu rfl rfl rfl (QL_gu rfl rfl rfl (QL_gn rfl rfl rfl rfl (QL_q rfl (Yd_pickF rfl rfl) ((QL_nil 10 rfl rfl rfl)))))))))))
                    · skip
                      refine RL_nil (X_then (?_))
                      refine C_cond rfl (fun hb79 => ?_) (fun hb79 => ?_)
                      · skip
                        try simp only [decide_eq_true_eq, decide_eq_false_iff_not, Bool.not_eq_true', Bool.not_eq_false', Decidable.not_not, Int.not_lt, Int.not_le, Bool.or_eq_true, Bool.and_eq_true, Bool.or_eq_false_iff, Bool.and_eq_false_iff] at hb79
                        refine C_seq (C_region (RL_q rfl (Yd_assign rfl) (RL_nil (X_then (C_ret (X_thenR (X_ret1 rfl rfl ?_)))))))
                        refine ⟨congrArg (fun n => Ending.returned (.int .i64 n)) ?_, hE⟩
                        unfold rCheck
                        repeat' split
                        all_goals first | rfl | omega
                      · skip
                        try simp only [decide_eq_true_eq, decide_eq_false_iff_not, Bool.not_eq_true', Bool.not_eq_false', Decidable.not_not, Int.not_lt, Int.not_le, Bool.or_eq_true, Bool.and_eq_true, Bool.or_eq_false_iff, Bool.and_eq_false_iff] at hb79
                        refine C_skip (X_then (C_seq (C_seq (C_region (RL_q rfl (Yd_move rfl) (RL_q rfl (Yd_move rfl) (?_)))))))
                        apply RL_and (dj := 81) 90 9 rfl
                        · intro hb81
                          try simp only [decide_eq_true_eq, decide_eq_false_iff_not, Bool.not_eq_true', Bool.not_eq_false', Decidable.not_not, Int.not_lt, Int.not_le, Bool.or_eq_true, Bool.and_eq_true, Bool.or_eq_false_iff, Bool.and_eq_false_iff] at hb81
                          refine QL_gq rfl rfl rfl (Yd_fld (off := 2) Try.underlying53 (by kernel_rfl) rfl) (QL_gq rfl rfl rfl (Yd_load Try.underlying3 rfl rfl (ldB hB2 rfl)) (QL_gq rfl rfl rfl (Yd_lss rfl rfl) (QL_gq rfl rfl rfl (Yd_move rfl) (?_))))
                          apply QL_or (dj := 85) 89 4 rfl
                          · intro hb85
                            try simp only [decide_eq_true_eq, decide_eq_false_iff_not, Bool.not_eq_true', Bool.not_eq_false', Decidable.not_not, Int.not_lt, Int.not_le, Bool.or_eq_true, Bool.and_eq_true, Bool.or_eq_false_iff, Bool.and_eq_false_iff] at hb85
                            refine QL_gq rfl rfl rfl (Yd_fld (off := 2) Try.underlying53 (by kernel_rfl) rfl) (QL_gq rfl rfl rfl (Yd_load Try.underlying3 rfl rfl (ldB hB2 rfl)) (QL_gq rfl rfl rfl (Yd_gtr rfl rfl) (QL_gq rfl rfl rfl (Yd_pickF rfl rfl) ((QL_nil 4 rfl rfl rfl)))))
                          · intro hb85
                            try simp only [decide_eq_true_eq, decide_eq_false_iff_not, Bool.not_eq_true', Bool.not_eq_false', Decidable.not_not, Int.not_lt, Int.not_le, Bool.or_eq_true, Bool.and_eq_true, Bool.or_eq_false_iff, Bool.and_eq_false_iff] at hb85
                            refine QL_gn rfl rfl rfl rfl (QL_gn rfl rfl rfl rfl (QL_gn rfl rfl rfl rfl (QL_gq rfl rfl rfl (Yd_pickT rfl rfl) ((QL_nil 4 rfl rfl rfl)))))
                          · skip
                            refine QL_q rfl (Yd_pickT rfl rfl) ((QL_nil 6 rfl rfl rfl))
                        · intro hb81
                          try simp only [decide_eq_true_eq, decide_eq_false_iff_not, Bool.not_eq_true', Bool.not_eq_false', Decidable.not_not, Int.not_lt, Int.not_le, Bool.or_eq_true, Bool.and_eq_true, Bool.or_eq_false_iff, Bool.and_eq_false_iff] at hb81
                          refine QL_gn rfl rfl rfl rfl (QL_gn rfl rfl rfl rfl (QL_gn rfl rfl rfl rfl (QL_gn rfl rfl rfl rfl (QL_gu rfl rfl rfl (QL_gu rfl rfl rfl (QL_gu rfl rfl rfl (QL_gn rfl rfl rfl rfl (QL_q rfl (Yd_pickF rfl rfl) ((QL_nil 9 rfl rfl rfl))))))))))
                        · skip
                          refine RL_nil (X_then (?_))
                          refine C_cond rfl (fun hb90 => ?_) (fun hb90 => ?_)
                          · skip
                            try simp only [decide_eq_true_eq, decide_eq_false_iff_not, Bool.not_eq_true', Bool.not_eq_false', Decidable.not_not, Int.not_lt, Int.not_le, Bool.or_eq_true, Bool.and_eq_true, Bool.or_eq_false_iff, Bool.and_eq_false_iff] at hb90
                            refine C_seq (C_region (RL_q rfl (Yd_assign rfl) (RL_nil (X_then (C_ret (X_thenR (X_ret1 rfl rfl ?_)))))))
                            refine ⟨congrArg (fun n => Ending.returned (.int .i64 n)) ?_, hE⟩
                            unfold rCheck
                            repeat' split
                            all_goals first | rfl | omega
                          · skip
                            try simp only [decide_eq_true_eq, decide_eq_false_iff_not, Bool.not_eq_true', Bool.not_eq_false', Decidable.not_not, Int.not_lt, Int.not_le, Bool.or_eq_true, Bool.and_eq_true, Bool.or_eq_false_iff, Bool.and_eq_false_iff] at hb90
                            refine C_skip (X_then (C_seq (C_seq (C_region (RL_q rfl (Yd_fld (off := 0) Try.underlying53 (by kernel_rfl) rfl) (RL_q rfl (Yd_load Try.underlying3 rfl rfl (ldB hB2 rfl)) (RL_q rfl (Yd_eql rfl rfl) (RL_q rfl (Yd_move rfl) (?_)))))))))
                            apply RL_and (dj := 94) 106 12 rfl
                            · intro hb94
                              try simp only [decide_eq_true_eq, decide_eq_false_iff_not, Bool.not_eq_true', Bool.not_eq_false', Decidable.not_not, Int.not_lt, Int.not_le, Bool.or_eq_true, Bool.and_eq_true, Bool.or_eq_false_iff, Bool.and_eq_false_iff] at hb94
                              refine QL_gq rfl rfl rfl (Yd_fld (off := 3) Try.underlying53 (by kernel_rfl) rfl) (QL_gq rfl rfl rfl (Yd_load Try.underlying3 rfl rfl (ldB hB2 rfl)) (QL_gq rfl rfl rfl (Yd_lss rfl rfl) (QL_gq rfl rfl rfl (Yd_move rfl) (?_))))
                              apply QL_or (dj := 98) 105 7 rfl
                              · intro hb98
                                try simp only [decide_eq_true_eq, decide_eq_false_iff_not, Bool.not_eq_true', Bool.not_eq_false', Decidable.not_not, Int.not_lt, Int.not_le, Bool.or_eq_true, Bool.and_eq_true, Bool.or_eq_false_iff, Bool.and_eq_false_iff] at hb98
                                refine QL_gq rfl rfl rfl (Yd_fld (off := 3) Try.underlying53 (by kernel_rfl) rfl) (QL_gq rfl rfl rfl (Yd_load Try.underlying3 rfl rfl (ldB hB2 rfl)) (QL_gq rfl rfl rfl (Yd_fld (off := 2) Try.underlying53 (by kernel_rfl) rfl) (QL_gq rfl rfl rfl (Yd_load Try.underlying3 rfl rfl (ldB hB2 rfl)) (QL_gq rfl rfl rfl (Yd_sub rfl rfl (i64w (by omega) (by omega))) (QL_gq rfl rfl rfl (Yd_gtr rfl rfl) (QL_gq rfl rfl rfl (Yd_pickF rfl rfl) ((QL_nil 7 rfl rfl rfl))))))))
                              · intro hb98
                                try simp only [decide_eq_true_eq, decide_eq_false_iff_not, Bool.not_eq_true', Bool.not_eq_false', Decidable.not_not, Int.not_lt, Int.not_le, Bool.or_eq_true, Bool.and_eq_true, Bool.or_eq_false_iff, Bool.and_eq_false_iff] at hb98
                                refine QL_gn rfl rfl rfl rfl (QL_gn rfl rfl rfl rfl (QL_gn rfl rfl rfl rfl (QL_gn rfl rfl rfl rfl (QL_gn rfl rfl rfl rfl (QL_gn rfl rfl rfl rfl (QL_gq rfl rfl rfl (Yd_pickT rfl rfl) ((QL_nil 7 rfl rfl rfl))))))))
                              · skip
                                refine QL_q rfl (Yd_pickT rfl rfl) ((QL_nil 6 rfl rfl rfl))
                            · intro hb94
                              try simp only [decide_eq_true_eq, decide_eq_false_iff_not, Bool.not_eq_true', Bool.not_eq_false', Decidable.not_not, Int.not_lt, Int.not_le, Bool.or_eq_true, Bool.and_eq_true, Bool.or_eq_false_iff, Bool.and_eq_false_iff] at hb94
                              refine QL_gn rfl rfl rfl rfl (QL_gn rfl rfl rfl rfl (QL_gn rfl rfl rfl rfl (QL_gn rfl rfl rfl rfl (QL_gu rfl rfl rfl (QL_gu rfl rfl rfl (QL_gu rfl rfl rfl (QL_gu rfl rfl rfl (QL_gu rfl rfl rfl (QL_gu rfl rfl rfl (QL_gn rfl rfl rfl rfl (QL_q rfl (Yd_pickF rfl rfl) ((QL_nil 12 rfl rfl rfl)))))))))))))
                            · skip
                              refine RL_nil (X_then (?_))
                              refine C_cond rfl (fun hb106 => ?_) (fun hb106 => ?_)
                              · skip
                                try simp only [decide_eq_true_eq, decide_eq_false_iff_not, Bool.not_eq_true', Bool.not_eq_false', Decidable.not_not, Int.not_lt, Int.not_le, Bool.or_eq_true, Bool.and_eq_true, Bool.or_eq_false_iff, Bool.and_eq_false_iff] at hb106
                                refine C_seq (C_region (RL_q rfl (Yd_assign rfl) (RL_nil (X_then (C_ret (X_thenR (X_ret1 rfl rfl ?_)))))))
                                refine ⟨congrArg (fun n => Ending.returned (.int .i64 n)) ?_, hE⟩
                                unfold rCheck
                                repeat' split
                                all_goals first | rfl | omega
                              · skip
                                try simp only [decide_eq_true_eq, decide_eq_false_iff_not, Bool.not_eq_true', Bool.not_eq_false', Decidable.not_not, Int.not_lt, Int.not_le, Bool.or_eq_true, Bool.and_eq_true, Bool.or_eq_false_iff, Bool.and_eq_false_iff] at hb106
                                refine C_skip (X_then (C_seq (C_seq (C_region (RL_q rfl (Yd_fld (off := 0) Try.underlying53 (by kernel_rfl) rfl) (RL_q rfl (Yd_load Try.underlying3 rfl rfl (ldB hB2 rfl)) (RL_q rfl (Yd_eql rfl rfl) (RL_q rfl (Yd_move rfl) (?_)))))))))
                                apply RL_and (dj := 110) 118 8 rfl
                                · intro hb110
                                  try simp only [decide_eq_true_eq, decide_eq_false_iff_not, Bool.not_eq_true', Bool.not_eq_false', Decidable.not_not, Int.not_lt, Int.not_le, Bool.or_eq_true, Bool.and_eq_true, Bool.or_eq_false_iff, Bool.and_eq_false_iff] at hb110
                                  refine QL_gq rfl rfl rfl (Yd_fld (off := 4) Try.underlying53 (by kernel_rfl) rfl) (QL_gq rfl rfl rfl (Yd_load Try.underlying24 rfl rfl (ldB hB2 rfl)) (QL_gq rfl rfl rfl (Yd_len Try.underlying24 rfl) (QL_gq rfl rfl rfl (Yd_fld (off := 2) Try.underlying53 (by kernel_rfl) rfl) (QL_gq rfl rfl rfl (Yd_load Try.underlying3 rfl rfl (ldB hB2 rfl)) (QL_gq rfl rfl rfl (Yd_sub rfl rfl (i64w (by omega) (by omega))) (QL_gq rfl rfl rfl (Yd_gtr rfl rfl) (QL_q rfl (Yd_pickT rfl rfl) ((QL_nil 8 rfl rfl rfl)))))))))
                                · intro hb110
                                  try simp only [decide_eq_true_eq, decide_eq_false_iff_not, Bool.not_eq_true', Bool.not_eq_false', Decidable.not_not, Int.not_lt, Int.not_le, Bool.or_eq_true, Bool.and_eq_true, Bool.or_eq_false_iff, Bool.and_eq_false_iff] at hb110
                                  refine QL_gn rfl rfl rfl rfl (QL_gn rfl rfl rfl rfl (QL_gn rfl rfl rfl rfl (QL_gn rfl rfl rfl rfl (QL_gn rfl rfl rfl rfl (QL_gn rfl rfl rfl rfl (QL_gn rfl rfl rfl rfl (QL_q rfl (Yd_pickF rfl rfl) ((QL_nil 8 rfl rfl rfl)))))))))
                                · skip
                                  refine RL_nil (X_then (?_))
                                  refine C_cond rfl (fun hb118 => ?_) (fun hb118 => ?_)
                                  · skip
                                    try simp only [decide_eq_true_eq, decide_eq_false_iff_not, Bool.not_eq_true', Bool.not_eq_false', Decidable.not_not, Int.not_lt, Int.not_le, Bool.or_eq_true, Bool.and_eq_true, Bool.or_eq_false_iff, Bool.and_eq_false_iff] at hb118
                                    refine C_seq (C_region (RL_q rfl (Yd_assign rfl) (RL_nil (X_then (C_ret (X_thenR (X_ret1 rfl rfl ?_)))))))
                                    refine ⟨congrArg (fun n => Ending.returned (.int .i64 n)) ?_, hE⟩
                                    unfold rCheck
                                    repeat' split
                                    all_goals first | rfl | omega
                                  · skip
                                    try simp only [decide_eq_true_eq, decide_eq_false_iff_not, Bool.not_eq_true', Bool.not_eq_false', Decidable.not_not, Int.not_lt, Int.not_le, Bool.or_eq_true, Bool.and_eq_true, Bool.or_eq_false_iff, Bool.and_eq_false_iff] at hb118
                                    refine C_skip (X_then (C_seq (C_region (RL_q rfl (Yd_assign rfl) (RL_nil (X_then (C_ret (X_ret1 rfl rfl ?_))))))))
                                    refine ⟨congrArg (fun n => Ending.returned (.int .i64 n)) ?_, hE⟩
                                    unfold rCheck
                                    repeat' split
                                    all_goals first | rfl | omega
theorem named_c (w : World) :
    Calls Try.prog 52 #[] w fun e w' => e = .returned (.agg #[.func (.func 57) #[] #[], .func (.func 56) #[] #[], .func (.func 58) #[] #[], .func (.func 59) #[] #[], .func (.func 56) #[] #[], .func (.func 56) #[] #[], .func (.func 57) #[] #[], .func (.func 56) #[] #[], .func (.func 57) #[] #[]]) ∧ Ext w w' := by
  have hE := Ext.refl w
  refine calls_of (l := []) (N := 15) Try.func52 rfl rfl rfl ?_
  refine C_seq (C_region (RL_l rfl (Ld_alloc (v := (.agg #[.nilFunc, .nilFunc, .nilFunc, .nilFunc, .nilFunc, .nilFunc, .nilFunc, .nilFunc, .nilFunc])) (by kernel_rfl) ?_)))
  have hg_0 := hE.size
  intro W1 he1 hz1 hB0
  replace hE := Ext.trans hE he1
  refine RL_nil (X_then (C_seq (C_region (RL_q rfl (Yd_assign rfl) (RL_nil (X_then (C_seq (C_region (RL_q rfl (Yd_assign rfl) (RL_nil (X_then (C_seq (C_region (RL_q rfl (Yd_assign rfl) (RL_nil (X_then (C_seq (C_region (RL_q rfl (Yd_assign rfl) (RL_nil (X_then (C_seq (C_region (RL_q rfl (Yd_move rfl) (RL_q rfl (Yd_move rfl) (RL_q rfl (Yd_move rfl) (RL_q rfl (Yd_move rfl) (RL_q rfl (Yd_move rfl) (RL_q rfl (Yd_move rfl) (RL_q rfl (Yd_move rfl) (RL_q rfl (Yd_move rfl) (RL_q rfl (Yd_move rfl) (RL_q rfl (Yd_build Try.bld76 rfl rfl) (RL_l0 (Ld_store (by kernel_rfl) rfl rfl hB0 (Nat.le_of_ble_eq_true rfl) (by simp [cellsL, Value.cells, Value.oneCell']) ?_)))))))))))))))))))))))))))))))))))
  intro W2 hu2 hz2 hB0
  replace hE := ext_but hE hu2 hg_0
  refine RL_nil (X_then (C_ret (X_retC rfl rfl Try.underlying76 rfl (by kernel_rfl) hB0 ?_)))
  exact ⟨rfl, hE⟩
theorem named1_c {lo B : Nat} (r : Rq) (w : World) (hr : RqAt w lo B r) :
    Calls Try.prog 56 #[.agg #[.int .i64 r.op, .int .i64 r.page, .int .i64 r.off, .int .i64 r.len, .slice r.A r.n r.c]] w fun e w' => e = .returned (Rq.val ⟨r.op, r.page, 0, 0, none, 0, 0, []⟩) ∧ Ext w w' := by
  have hE := Ext.refl w
  replace hr := hr.fit
  refine calls_of (l := [.agg #[.int .i64 r.op, .int .i64 r.page, .int .i64 r.off, .int .i64 r.len, .slice r.A r.n r.c]]) (N := 8) Try.func56 rfl rfl rfl ?_
  refine C_seq (C_region (RL_l rfl (Ld_box rfl ?_)))
  have hg_1 := hE.size
  intro W1 he1 hz1 hB1
  replace hE := Ext.trans hE he1
  replace hr := hr.ext he1
  refine RL_l rfl (Ld_alloc (v := (.agg #[(.int .i64 0), (.int .i64 0), (.int .i64 0), (.int .i64 0), (.slice none 0 0)])) (by kernel_rfl) ?_)
  have hg_2 := hE.size
  intro W2 he2 hz2 hB2
  replace hE := Ext.trans hE he2
  replace hr := hr.ext he2
  replace hB1 := hB1.ext he2
  refine RL_nil (X_then (C_seq (C_region (RL_q rfl (Yd_fld (off := 0) Try.underlying53 (by kernel_rfl) rfl) (RL_q rfl (Yd_load Try.underlying3 rfl rfl (ldB hB1 rfl)) (RL_q rfl (Yd_fld (off := 1) Try.underlying53 (by kernel_rfl) rfl) (RL_q rfl (Yd_load Try.underlying3 rfl rfl (ldB hB1 rfl)) (RL_q rfl (Yd_build Try.bld53 rfl rfl) (RL_l0 (Ld_store (by kernel_rfl) rfl rfl hB2 (Nat.le_of_ble_eq_true rfl) (by simp [cellsL, Value.cells, Value.oneCell']) ?_))))))))))
  intro W3 hu3 hz3 hB2
  replace hE := ext_but hE hu3 hg_2
  replace hr := hr.bt hu3 (by omega)
  replace hB1 := hB1.bt hu3 (by omega)
  refine RL_nil (X_then (C_ret (X_retC rfl rfl Try.underlying53 rfl (by kernel_rfl) hB2 ?_)))
  exact ⟨rfl, hE⟩
theorem named2_c {lo B : Nat} (r : Rq) (w : World) (hr : RqAt w lo B r) :
    Calls Try.prog 57 #[.agg #[.int .i64 r.op, .int .i64 r.page, .int .i64 r.off, .int .i64 r.len, .slice r.A r.n r.c]] w fun e w' => e = .returned (Rq.val ⟨r.op, 0, 0, 0, none, 0, 0, []⟩) ∧ Ext w w' := by
  have hE := Ext.refl w
  replace hr := hr.fit
  refine calls_of (l := [.agg #[.int .i64 r.op, .int .i64 r.page, .int .i64 r.off, .int .i64 r.len, .slice r.A r.n r.c]]) (N := 6) Try.func57 rfl rfl rfl ?_
  refine C_seq (C_region (RL_l rfl (Ld_box rfl ?_)))
  have hg_1 := hE.size
  intro W1 he1 hz1 hB1
  replace hE := Ext.trans hE he1
  replace hr := hr.ext he1
  refine RL_l rfl (Ld_alloc (v := (.agg #[(.int .i64 0), (.int .i64 0), (.int .i64 0), (.int .i64 0), (.slice none 0 0)])) (by kernel_rfl) ?_)
  have hg_2 := hE.size
  intro W2 he2 hz2 hB2
  replace hE := Ext.trans hE he2
  replace hr := hr.ext he2
  replace hB1 := hB1.ext he2
  refine RL_nil (X_then (C_seq (C_region (RL_q rfl (Yd_fld (off := 0) Try.underlying53 (by kernel_rfl) rfl) (RL_q rfl (Yd_load Try.underlying3 rfl rfl (ldB hB1 rfl)) (RL_q rfl (Yd_build Try.bld53 rfl rfl) (RL_l0 (Ld_store (by kernel_rfl) rfl rfl hB2 (Nat.le_of_ble_eq_true rfl) (by simp [cellsL, Value.cells, Value.oneCell']) ?_))))))))
  intro W3 hu3 hz3 hB2
  replace hE := ext_but hE hu3 hg_2
  replace hr := hr.bt hu3 (by omega)
  replace hB1 := hB1.bt hu3 (by omega)
  refine RL_nil (X_then (C_ret (X_retC rfl rfl Try.underlying53 rfl (by kernel_rfl) hB2 ?_)))
  exact ⟨rfl, hE⟩
theorem named3_c {lo B : Nat} (r : Rq) (w : World) (hr : RqAt w lo B r) :
    Calls Try.prog 58 #[.agg #[.int .i64 r.op, .int .i64 r.page, .int .i64 r.off, .int .i64 r.len, .slice r.A r.n r.c]] w fun e w' => e = .returned (Rq.val ⟨r.op, r.page, r.off, r.len, none, 0, 0, []⟩) ∧ Ext w w' := by
  have hE := Ext.refl w
  replace hr := hr.fit
  refine calls_of (l := [.agg #[.int .i64 r.op, .int .i64 r.page, .int .i64 r.off, .int .i64 r.len, .slice r.A r.n r.c]]) (N := 12) Try.func58 rfl rfl rfl ?_
  refine C_seq (C_region (RL_l rfl (Ld_box rfl ?_)))
  have hg_1 := hE.size
  intro W1 he1 hz1 hB1
  replace hE := Ext.trans hE he1
  replace hr := hr.ext he1
  refine RL_l rfl (Ld_alloc (v := (.agg #[(.int .i64 0), (.int .i64 0), (.int .i64 0), (.int .i64 0), (.slice none 0 0)])) (by kernel_rfl) ?_)
  have hg_2 := hE.size
  intro W2 he2 hz2 hB2
  replace hE := Ext.trans hE he2
  replace hr := hr.ext he2
  replace hB1 := hB1.ext he2
  refine RL_nil (X_then (C_seq (C_region (RL_q rfl (Yd_fld (off := 0) Try.underlying53 (by kernel_rfl) rfl) (RL_q rfl (Yd_load Try.underlying3 rfl rfl (ldB hB1 rfl)) (RL_q rfl (Yd_fld (off := 1) Try.underlying53 (by kernel_rfl) rfl) (RL_q rfl (Yd_load Try.underlying3 rfl rfl (ldB hB1 rfl)) (RL_q rfl (Yd_fld (off := 2) Try.underlying53 (by kernel_rfl) rfl) (RL_q rfl (Yd_load Try.underlying3 rfl rfl (ldB hB1 rfl)) (RL_q rfl (Yd_fld (off := 3) Try.underlying53 (by kernel_rfl) rfl) (RL_q rfl (Yd_load Try.underlying3 rfl rfl (ldB hB1 rfl)) (RL_q rfl (Yd_build Try.bld53 rfl rfl) (RL_l0 (Ld_store (by kernel_rfl) rfl rfl hB2 (Nat.le_of_ble_eq_true rfl) (by simp [cellsL, Value.cells, Value.oneCell']) ?_))))))))))))))
  intro W3 hu3 hz3 hB2
  replace hE := ext_but hE hu3 hg_2
  replace hr := hr.bt hu3 (by omega)
  replace hB1 := hB1.bt hu3 (by omega)
  refine RL_nil (X_then (C_ret (X_retC rfl rfl Try.underlying53 rfl (by kernel_rfl) hB2 ?_)))
  exact ⟨rfl, hE⟩
theorem named4_c {lo B : Nat} (r : Rq) (w : World) (hr : RqAt w lo B r) :
    Calls Try.prog 59 #[.agg #[.int .i64 r.op, .int .i64 r.page, .int .i64 r.off, .int .i64 r.len, .slice r.A r.n r.c]] w fun e w' => e = .returned (Rq.val ⟨r.op, r.page, r.off, 0, r.A, r.n, r.c, r.d⟩) ∧ Ext w w' := by
  have hE := Ext.refl w
  replace hr := hr.fit
  refine calls_of (l := [.agg #[.int .i64 r.op, .int .i64 r.page, .int .i64 r.off, .int .i64 r.len, .slice r.A r.n r.c]]) (N := 12) Try.func59 rfl rfl rfl ?_
  refine C_seq (C_region (RL_l rfl (Ld_box rfl ?_)))
  have hg_1 := hE.size
  intro W1 he1 hz1 hB1
  replace hE := Ext.trans hE he1
  replace hr := hr.ext he1
  refine RL_l rfl (Ld_alloc (v := (.agg #[(.int .i64 0), (.int .i64 0), (.int .i64 0), (.int .i64 0), (.slice none 0 0)])) (by kernel_rfl) ?_)
  have hg_2 := hE.size
  intro W2 he2 hz2 hB2
  replace hE := Ext.trans hE he2
  replace hr := hr.ext he2
  replace hB1 := hB1.ext he2
  refine RL_nil (X_then (C_seq (C_region (RL_q rfl (Yd_fld (off := 0) Try.underlying53 (by kernel_rfl) rfl) (RL_q rfl (Yd_load Try.underlying3 rfl rfl (ldB hB1 rfl)) (RL_q rfl (Yd_fld (off := 1) Try.underlying53 (by kernel_rfl) rfl) (RL_q rfl (Yd_load Try.underlying3 rfl rfl (ldB hB1 rfl)) (RL_q rfl (Yd_fld (off := 2) Try.underlying53 (by kernel_rfl) rfl) (RL_q rfl (Yd_load Try.underlying3 rfl rfl (ldB hB1 rfl)) (RL_q rfl (Yd_fld (off := 4) Try.underlying53 (by kernel_rfl) rfl) (RL_q rfl (Yd_load Try.underlying24 rfl rfl (ldB hB1 rfl)) (RL_q rfl (Yd_build Try.bld53 rfl rfl) (RL_l0 (Ld_store (by kernel_rfl) rfl rfl hB2 (Nat.le_of_ble_eq_true rfl) (by simp [cellsL, Value.cells, Value.oneCell']) ?_))))))))))))))
  intro W3 hu3 hz3 hB2
  replace hE := ext_but hE hu3 hg_2
  replace hr := hr.bt hu3 (by omega)
  replace hB1 := hB1.bt hu3 (by omega)
  refine RL_nil (X_then (C_ret (X_retC rfl rfl Try.underlying53 rfl (by kernel_rfl) hB2 ?_)))
  exact ⟨rfl, hE⟩

def rNamed (k : Nat) (r : Rq) : Rq := match k with
  | 1 => ⟨r.op, r.page, 0, 0, none, 0, 0, []⟩
  | 2 => ⟨r.op, 0, 0, 0, none, 0, 0, []⟩
  | 3 => ⟨r.op, r.page, r.off, r.len, none, 0, 0, []⟩
  | _ => ⟨r.op, r.page, r.off, 0, r.A, r.n, r.c, r.d⟩
theorem rNamed_at {w : World} {lo B : Nat} {r : Rq} (k : Nat) (h : RqAt w lo B r) : RqAt w lo B (rNamed k r) := by
  unfold rNamed
  split
  · exact ⟨Rw.none, rfl, Byt.nil, Nat.zero_le _, h.op, h.page, by simp, by simp⟩
  · exact ⟨Rw.none, rfl, Byt.nil, Nat.zero_le _, h.op, by simp, by simp, by simp⟩
  · exact ⟨Rw.none, rfl, Byt.nil, Nat.zero_le _, h.op, h.page, h.off, h.len⟩
  · exact ⟨h.rw_, h.ln, h.byt, h.cap, h.op, h.page, h.off, by simp⟩
theorem nil_iff (l : List Int) : l = [] ↔ l.length = 0 := ⟨fun h => by rw [h]; rfl, List.eq_nil_of_length_eq_zero⟩
theorem Check_out {lo B : Nat} (r : Rq) (pages : Int) (w : World) (hr : RqAt w lo B r) (ho : r.op < 1 ∨ 8 < r.op) :
    Calls Try.prog 38 #[.agg #[.int .i64 r.op, .int .i64 r.page, .int .i64 r.off, .int .i64 r.len, .slice r.A r.n r.c], .int .i64 pages] w fun e w' => e = .returned (.int .i64 (rCheck r pages)) ∧ Ext w w' := by
  have hE := Ext.refl w
  refine calls_of (l := [.agg #[.int .i64 r.op, .int .i64 r.page, .int .i64 r.off, .int .i64 r.len, .slice r.A r.n r.c], .int .i64 pages]) (N := 69) Try.func38 rfl rfl rfl ?_
  refine C_seq (C_region (RL_l rfl (Ld_box rfl ?_)))
  have hg_2 := hE.size
  intro W1 he1 hz1 hB2
  replace hE := Ext.trans hE he1
  replace hr := hr.ext he1
  refine RL_q rfl (Yd_assign rfl) (RL_nil (X_then (C_seq (C_seq (?_)))))
  refine C_regionD (NoB) (l := [(0, true), (1, true), (2, false), (3, true), (4, true), (5, true), (7, true), (8, true), (10, true), (6, false), (9, true), (11, false), (12, false), (13, true), (14, true)]) (by kernel_rfl) (by kernel_rfl) rfl (by kernel_rfl) (fun _ _ d _ _ h => by cases d <;> exact h) ?_
  intro W2 he2 hh2
  replace hE := Ext.trans hE he2
  replace hr := hr.ext he2
  replace hB2 := hB2.ext he2
  have hs2 := he2.size
  refine RO_q rfl rfl (Yd_fld (off := 0) Try.underlying53 (by kernel_rfl) rfl) (RO_q rfl rfl (Yd_load Try.underlying3 rfl rfl (fun W hW => (ldB hB2 rfl) W hW.ext)) (RO_l rfl rfl (Ld_call Try.func41 rfl (by kernel_rfl) rfl (Name_c _ _) ?_)))
  rintro e W3 ⟨rfl, he3⟩
  refine ⟨_, rfl, ?_⟩
  refine ⟨Kp.of_ext he3, ?_⟩
  replace hE := Ext.trans hE he3
  replace hr := hr.ext he3
  replace hB2 := hB2.ext he3
  have hs3 := he3.size
  refine RO_q rfl rfl (Yd_eqlS rfl rfl) (RO_q rfl rfl (Yd_move rfl) (?_))
  refine RO_is (d := 9) (b' := true) rfl (by rw [rName_out ho]; simp) ?_
  refine RO_gn rfl rfl rfl rfl rfl (RO_gn rfl rfl rfl rfl rfl (RO_gn rfl rfl rfl rfl rfl (RO_gn rfl rfl rfl rfl rfl (RO_gnL rfl rfl rfl rfl rfl (RO_gn rfl rfl rfl rfl rfl (RO_gnL rfl rfl rfl rfl rfl (RO_gnL rfl rfl rfl rfl rfl (RO_gn rfl rfl rfl rfl rfl (RO_q rfl rfl (Yd_pickT rfl rfl) (RO_nil (X_then (C_yes rfl rfl (C_seq (C_region (RL_q rfl (Yd_assign rfl) (RL_nil (X_then (C_ret (X_thenR (X_ret1 rfl rfl ?_))))))))))))))))))))
  refine ⟨congrArg (fun n => Ending.returned (.int .i64 n)) ?_, hE⟩
  unfold rCheck
  repeat' split
  all_goals first | rfl | omega
theorem Check_1 {lo B : Nat} (r : Rq) (pages : Int) (w : World) (hr : RqAt w lo B r) (ho : r.op = 1) :
    Calls Try.prog 38 #[.agg #[.int .i64 r.op, .int .i64 r.page, .int .i64 r.off, .int .i64 r.len, .slice r.A r.n r.c], .int .i64 pages] w fun e w' => e = .returned (.int .i64 (rCheck r pages)) ∧ Ext w w' := by
  have hE := Ext.refl w
  refine calls_of (l := [.agg #[.int .i64 r.op, .int .i64 r.page, .int .i64 r.off, .int .i64 r.len, .slice r.A r.n r.c], .int .i64 pages]) (N := 69) Try.func38 rfl rfl rfl ?_
  refine C_seq (C_region (RL_l rfl (Ld_box rfl ?_)))
  have hg_2 := hE.size
  intro W1 he1 hz1 hB2
  replace hE := Ext.trans hE he1
  replace hr := hr.ext he1
  refine RL_q rfl (Yd_assign rfl) (RL_nil (X_then (C_seq (C_seq (?_)))))
  refine C_regionD (NoB) (l := [(0, true), (1, true), (2, false), (3, true), (4, true), (5, true), (7, true), (8, true), (10, true), (6, false), (9, true), (11, false), (12, false), (13, true), (14, true)]) (by kernel_rfl) (by kernel_rfl) rfl (by kernel_rfl) (fun _ _ d _ _ h => by cases d <;> exact h) ?_
  intro W2 he2 hh2
  replace hE := Ext.trans hE he2
  replace hr := hr.ext he2
  replace hB2 := hB2.ext he2
  have hs2 := he2.size
  refine RO_q rfl rfl (Yd_fld (off := 0) Try.underlying53 (by kernel_rfl) rfl) (RO_q rfl rfl (Yd_load Try.underlying3 rfl rfl (fun W hW => (ldB hB2 rfl) W hW.ext)) (RO_l rfl rfl (Ld_call Try.func41 rfl (by kernel_rfl) rfl (Name_c _ _) ?_)))
  rintro e W3 ⟨rfl, he3⟩
  refine ⟨_, rfl, ?_⟩
  refine ⟨Kp.of_ext he3, ?_⟩
  replace hE := Ext.trans hE he3
  replace hr := hr.ext he3
  replace hB2 := hB2.ext he3
  have hs3 := he3.size
  refine RO_q rfl rfl (Yd_eqlS rfl rfl) (RO_q rfl rfl (Yd_move rfl) (?_))
  refine RO_is (d := 9) (b' := false) rfl (rName_ne (by omega) (by omega)) ?_
  refine RO_gq rfl rfl rfl rfl (Yd_loadA Try.underlying53 rfl (by kernel_rfl) rfl (fun W hW => (ldBA hB2) W hW.ext)) (RO_gq rfl rfl rfl rfl (Yd_fld (off := 0) Try.underlying53 (by kernel_rfl) rfl) (RO_gq rfl rfl rfl rfl (Yd_load Try.underlying3 rfl rfl (fun W hW => (ldB hB2 rfl) W hW.ext)) (RO_gq rfl rfl rfl rfl (Yd_loadA Try.underlying53 rfl (by kernel_rfl) rfl (fun W hW => (ldBA hB2) W hW.ext)) (RO_gl rfl rfl rfl rfl (Ld_call Try.func52 rfl (by kernel_rfl) rfl (named_c _) ?_)))))
  rintro e W4 ⟨rfl, he4⟩
  refine ⟨_, rfl, ?_⟩
  refine ⟨Kp.of_ext he4, ?_⟩
  replace hE := Ext.trans hE he4
  replace hr := hr.ext he4
  replace hB2 := hB2.ext he4
  have hs4 := he4.size
  refine RO_gq rfl rfl rfl rfl (Yd_index Try.underlying76 (by kernel_rfl) Try.underlying55 rfl rfl rfl (by omega) (by omega) (by rw [ho]; rfl)) (RO_gl rfl rfl rfl rfl (Ld_callV rfl Try.func56 rfl (by kernel_rfl) rfl (named1_c r _ hr) ?_))
  rintro e W5 ⟨rfl, he5⟩
  refine ⟨_, rfl, ?_⟩
  refine ⟨Kp.of_ext he5, ?_⟩
  replace hE := Ext.trans hE he5
  replace hr := hr.ext he5
  replace hB2 := hB2.ext he5
  have hs5 := he5.size
  refine RO_gl rfl rfl rfl rfl (Ld_call Try.func43 rfl (by kernel_rfl) rfl (Same_c r (rNamed 1 r) _ hr (rNamed_at 1 hr)) ?_)
  rintro e W6 ⟨rfl, he6⟩
  refine ⟨_, rfl, ?_⟩
  refine ⟨Kp.of_ext he6, ?_⟩
  replace hE := Ext.trans hE he6
  replace hr := hr.ext he6
  replace hB2 := hB2.ext he6
  have hs6 := he6.size
  have hnil : r.d = [] ↔ r.n = 0 := by rw [nil_iff, hr.ln]
  have hsame : rSame r (rNamed 1 r) = true ↔ (r.off = 0 ∧ r.len = 0 ∧ r.n = 0) := by simp [rSame, rNamed, hnil, and_assoc]
  refine RO_gq rfl rfl rfl rfl (Yd_not rfl) (RO_q rfl rfl (Yd_pickF rfl rfl) (RO_nil (X_then (?_))))
  refine C_cond rfl (fun hb19 => ?_) (fun hb19 => ?_)
  · skip
    try simp only [decide_eq_true_eq, decide_eq_false_iff_not, Bool.not_eq_true', Bool.not_eq_false', Decidable.not_not, Int.not_lt, Int.not_le, Bool.or_eq_true, Bool.and_eq_true, Bool.or_eq_false_iff, Bool.and_eq_false_iff] at hb19
    refine C_seq (C_region (RL_q rfl (Yd_assign rfl) (RL_nil (X_then (C_ret (X_thenR (X_ret1 rfl rfl ?_)))))))
    simp only [hb19, Bool.false_eq_true, false_iff, true_iff] at hsame
    refine ⟨congrArg (fun n => Ending.returned (.int .i64 n)) ?_, hE⟩
    unfold rCheck
    repeat' split
    all_goals first | rfl | omega
  · skip
    try simp only [decide_eq_true_eq, decide_eq_false_iff_not, Bool.not_eq_true', Bool.not_eq_false', Decidable.not_not, Int.not_lt, Int.not_le, Bool.or_eq_true, Bool.and_eq_true, Bool.or_eq_false_iff, Bool.and_eq_false_iff] at hb19
    refine C_skip (X_then (C_seq (C_seq (C_region (RL_q rfl (Yd_fld (off := 0) Try.underlying53 (by kernel_rfl) rfl) (RL_q rfl (Yd_load Try.underlying3 rfl rfl (ldB hB2 rfl)) (RL_q rfl (Yd_neq rfl rfl) (RL_q rfl (Yd_move rfl) (?_)))))))))
    apply RL_and (dj := 23) 27 4 rfl
    · intro hb23
      try simp only [decide_eq_true_eq, decide_eq_false_iff_not, Bool.not_eq_true', Bool.not_eq_false', Decidable.not_not, Int.not_lt, Int.not_le, Bool.or_eq_true, Bool.and_eq_true, Bool.or_eq_false_iff, Bool.and_eq_false_iff] at hb23
      refine QL_gq rfl rfl rfl (Yd_fld (off := 0) Try.underlying53 (by kernel_rfl) rfl) (QL_gq rfl rfl rfl (Yd_load Try.underlying3 rfl rfl (ldB hB2 rfl)) (QL_gq rfl rfl rfl (Yd_neq rfl rfl) (QL_q rfl (Yd_pickT rfl rfl) ((QL_nil 4 rfl rfl rfl)))))
    · intro hb23
      try simp only [decide_eq_true_eq, decide_eq_false_iff_not, Bool.not_eq_true', Bool.not_eq_false', Decidable.not_not, Int.not_lt, Int.not_le, Bool.or_eq_true, Bool.and_eq_true, Bool.or_eq_false_iff, Bool.and_eq_false_iff] at hb23
      refine QL_gn rfl rfl rfl rfl (QL_gn rfl rfl rfl rfl (QL_gn rfl rfl rfl rfl (QL_q rfl (Yd_pickF rfl rfl) ((QL_nil 4 rfl rfl rfl)))))
    · skip
      refine RL_q rfl (Yd_move rfl) (?_)
      apply RL_and (dj := 28) 38 10 rfl
      · intro hb28
        try simp only [decide_eq_true_eq, decide_eq_false_iff_not, Bool.not_eq_true', Bool.not_eq_false', Decidable.not_not, Int.not_lt, Int.not_le, Bool.or_eq_true, Bool.and_eq_true, Bool.or_eq_false_iff, Bool.and_eq_false_iff] at hb28
        refine QL_gq rfl rfl rfl (Yd_fld (off := 1) Try.underlying53 (by kernel_rfl) rfl) (QL_gq rfl rfl rfl (Yd_load Try.underlying3 rfl rfl (ldB hB2 rfl)) (QL_gq rfl rfl rfl (Yd_lss rfl rfl) (QL_gq rfl rfl rfl (Yd_move rfl) (?_))))
        apply QL_or (dj := 32) 37 5 rfl
        · intro hb32
          try simp only [decide_eq_true_eq, decide_eq_false_iff_not, Bool.not_eq_true', Bool.not_eq_false', Decidable.not_not, Int.not_lt, Int.not_le, Bool.or_eq_true, Bool.and_eq_true, Bool.or_eq_false_iff, Bool.and_eq_false_iff] at hb32
          refine QL_gq rfl rfl rfl (Yd_fld (off := 1) Try.underlying53 (by kernel_rfl) rfl) (QL_gq rfl rfl rfl (Yd_load Try.underlying3 rfl rfl (ldB hB2 rfl)) (QL_gq rfl rfl rfl (Yd_move rfl) (QL_gq rfl rfl rfl (Yd_geq rfl rfl) (QL_gq rfl rfl rfl (Yd_pickF rfl rfl) ((QL_nil 5 rfl rfl rfl))))))
        · intro hb32
          try simp only [decide_eq_true_eq, decide_eq_false_iff_not, Bool.not_eq_true', Bool.not_eq_false', Decidable.not_not, Int.not_lt, Int.not_le, Bool.or_eq_true, Bool.and_eq_true, Bool.or_eq_false_iff, Bool.and_eq_false_iff] at hb32
          refine QL_gn rfl rfl rfl rfl (QL_gn rfl rfl rfl rfl (QL_gn rfl rfl rfl rfl (QL_gn rfl rfl rfl rfl (QL_gq rfl rfl rfl (Yd_pickT rfl rfl) ((QL_nil 5 rfl rfl rfl))))))
        · skip
          refine QL_q rfl (Yd_pickT rfl rfl) ((QL_nil 6 rfl rfl rfl))
      · intro hb28
        try simp only [decide_eq_true_eq, decide_eq_false_iff_not, Bool.not_eq_true', Bool.not_eq_false', Decidable.not_not, Int.not_lt, Int.not_le, Bool.or_eq_true, Bool.and_eq_true, Bool.or_eq_false_iff, Bool.and_eq_false_iff] at hb28
        refine QL_gn rfl rfl rfl rfl (QL_gn rfl rfl rfl rfl (QL_gn rfl rfl rfl rfl (QL_gn rfl rfl rfl rfl (QL_gu rfl rfl rfl (QL_gu rfl rfl rfl (QL_gu rfl rfl rfl (QL_gu rfl rfl rfl (QL_gn rfl rfl rfl rfl (QL_q rfl (Yd_pickF rfl rfl) ((QL_nil 10 rfl rfl rfl)))))))))))
      · skip
        refine RL_nil (X_then (?_))
        refine C_cond rfl (fun hb38 => ?_) (fun hb38 => ?_)
        · skip
          try simp only [decide_eq_true_eq, decide_eq_false_iff_not, Bool.not_eq_true', Bool.not_eq_false', Decidable.not_not, Int.not_lt, Int.not_le, Bool.or_eq_true, Bool.and_eq_true, Bool.or_eq_false_iff, Bool.and_eq_false_iff] at hb38
          refine C_seq (C_region (RL_q rfl (Yd_assign rfl) (RL_nil (X_then (C_ret (X_thenR (X_ret1 rfl rfl ?_)))))))
          simp only [hb19, Bool.false_eq_true, false_iff, true_iff] at hsame
          refine ⟨congrArg (fun n => Ending.returned (.int .i64 n)) ?_, hE⟩
          unfold rCheck
          repeat' split
          all_goals first | rfl | omega
        · skip
          try simp only [decide_eq_true_eq, decide_eq_false_iff_not, Bool.not_eq_true', Bool.not_eq_false', Decidable.not_not, Int.not_lt, Int.not_le, Bool.or_eq_true, Bool.and_eq_true, Bool.or_eq_false_iff, Bool.and_eq_false_iff] at hb38
          refine C_skip (X_then (C_seq (C_seq (C_region (RL_q rfl (Yd_fld (off := 2) Try.underlying53 (by kernel_rfl) rfl) (RL_q rfl (Yd_load Try.underlying3 rfl rfl (ldB hB2 rfl)) (RL_q rfl (Yd_lss rfl rfl) (RL_q rfl (Yd_move rfl) (?_)))))))))
          apply RL_or (dj := 42) 46 4 rfl
          · intro hb42
            try simp only [decide_eq_true_eq, decide_eq_false_iff_not, Bool.not_eq_true', Bool.not_eq_false', Decidable.not_not, Int.not_lt, Int.not_le, Bool.or_eq_true, Bool.and_eq_true, Bool.or_eq_false_iff, Bool.and_eq_false_iff] at hb42
            refine QL_gq rfl rfl rfl (Yd_fld (off := 2) Try.underlying53 (by kernel_rfl) rfl) (QL_gq rfl rfl rfl (Yd_load Try.underlying3 rfl rfl (ldB hB2 rfl)) (QL_gq rfl rfl rfl (Yd_gtr rfl rfl) (QL_q rfl (Yd_pickF rfl rfl) ((QL_nil 4 rfl rfl rfl)))))
          · intro hb42
            try simp only [decide_eq_true_eq, decide_eq_false_iff_not, Bool.not_eq_true', Bool.not_eq_false', Decidable.not_not, Int.not_lt, Int.not_le, Bool.or_eq_true, Bool.and_eq_true, Bool.or_eq_false_iff, Bool.and_eq_false_iff] at hb42
            refine QL_gn rfl rfl rfl rfl (QL_gn rfl rfl rfl rfl (QL_gn rfl rfl rfl rfl (QL_q rfl (Yd_pickT rfl rfl) ((QL_nil 4 rfl rfl rfl)))))
          · skip
            refine RL_q rfl (Yd_move rfl) (?_)
            apply RL_or (dj := 47) 51 4 rfl
            · intro hb47
              try simp only [decide_eq_true_eq, decide_eq_false_iff_not, Bool.not_eq_true', Bool.not_eq_false', Decidable.not_not, Int.not_lt, Int.not_le, Bool.or_eq_true, Bool.and_eq_true, Bool.or_eq_false_iff, Bool.and_eq_false_iff] at hb47
              refine QL_gq rfl rfl rfl (Yd_fld (off := 3) Try.underlying53 (by kernel_rfl) rfl) (QL_gq rfl rfl rfl (Yd_load Try.underlying3 rfl rfl (ldB hB2 rfl)) (QL_gq rfl rfl rfl (Yd_lss rfl rfl) (QL_q rfl (Yd_pickF rfl rfl) ((QL_nil 4 rfl rfl rfl)))))
            · intro hb47
              try simp only [decide_eq_true_eq, decide_eq_false_iff_not, Bool.not_eq_true', Bool.not_eq_false', Decidable.not_not, Int.not_lt, Int.not_le, Bool.or_eq_true, Bool.and_eq_true, Bool.or_eq_false_iff, Bool.and_eq_false_iff] at hb47
              refine QL_gn rfl rfl rfl rfl (QL_gn rfl rfl rfl rfl (QL_gn rfl rfl rfl rfl (QL_q rfl (Yd_pickT rfl rfl) ((QL_nil 4 rfl rfl rfl)))))
            · skip
              refine RL_q rfl (Yd_move rfl) (?_)
              apply RL_or (dj := 52) 59 7 rfl
              · intro hb52
                try simp only [decide_eq_true_eq, decide_eq_false_iff_not, Bool.not_eq_true', Bool.not_eq_false', Decidable.not_not, Int.not_lt, Int.not_le, Bool.or_eq_true, Bool.and_eq_true, Bool.or_eq_false_iff, Bool.and_eq_false_iff] at hb52
                refine QL_gq rfl rfl rfl (Yd_fld (off := 3) Try.underlying53 (by kernel_rfl) rfl) (QL_gq rfl rfl rfl (Yd_load Try.underlying3 rfl rfl (ldB hB2 rfl)) (QL_gq rfl rfl rfl (Yd_fld (off := 2) Try.underlying53 (by kernel_rfl) rfl) (QL_gq rfl rfl rfl (Yd_load Try.underlying3 rfl rfl (ldB hB2 rfl)) (QL_gq rfl rfl rfl (Yd_sub rfl rfl (i64w (by omega) (by omega))) (QL_gq rfl rfl rfl (Yd_gtr rfl rfl) (QL_q rfl (Yd_pickF rfl rfl) ((QL_nil 7 rfl rfl rfl))))))))
              · intro hb52
                try simp only [decide_eq_true_eq, decide_eq_false_iff_not, Bool.not_eq_true', Bool.not_eq_false', Decidable.not_not, Int.not_lt, Int.not_le, Bool.or_eq_true, Bool.and_eq_true, Bool.or_eq_false_iff, Bool.and_eq_false_iff] at hb52
                refine QL_gn rfl rfl rfl rfl (QL_gn rfl rfl rfl rfl (QL_gn rfl rfl rfl rfl (QL_gn rfl rfl rfl rfl (QL_gn rfl rfl rfl rfl (QL_gn rfl rfl rfl rfl (QL_q rfl (Yd_pickT rfl rfl) ((QL_nil 7 rfl rfl rfl))))))))
              · skip
                refine RL_q rfl (Yd_move rfl) (?_)
                apply RL_or (dj := 60) 68 8 rfl
                · intro hb60
                  try simp only [decide_eq_true_eq, decide_eq_false_iff_not, Bool.not_eq_true', Bool.not_eq_false', Decidable.not_not, Int.not_lt, Int.not_le, Bool.or_eq_true, Bool.and_eq_true, Bool.or_eq_false_iff, Bool.and_eq_false_iff] at hb60
                  refine QL_gq rfl rfl rfl (Yd_fld (off := 4) Try.underlying53 (by kernel_rfl) rfl) (QL_gq rfl rfl rfl (Yd_load Try.underlying24 rfl rfl (ldB hB2 rfl)) (QL_gq rfl rfl rfl (Yd_len Try.underlying24 rfl) (QL_gq rfl rfl rfl (Yd_fld (off := 2) Try.underlying53 (by kernel_rfl) rfl) (QL_gq rfl rfl rfl (Yd_load Try.underlying3 rfl rfl (ldB hB2 rfl)) (QL_gq rfl rfl rfl (Yd_sub rfl rfl (i64w (by omega) (by omega))) (QL_gq rfl rfl rfl (Yd_gtr rfl rfl) (QL_q rfl (Yd_pickF rfl rfl) ((QL_nil 8 rfl rfl rfl)))))))))
                · intro hb60
                  try simp only [decide_eq_true_eq, decide_eq_false_iff_not, Bool.not_eq_true', Bool.not_eq_false', Decidable.not_not, Int.not_lt, Int.not_le, Bool.or_eq_true, Bool.and_eq_true, Bool.or_eq_false_iff, Bool.and_eq_false_iff] at hb60
                  refine QL_gn rfl rfl rfl rfl (QL_gn rfl rfl rfl rfl (QL_gn rfl rfl rfl rfl (QL_gn rfl rfl rfl rfl (QL_gn rfl rfl rfl rfl (QL_gn rfl rfl rfl rfl (QL_gn rfl rfl rfl rfl (QL_q rfl (Yd_pickT rfl rfl) ((QL_nil 8 rfl rfl rfl)))))))))
                · skip
                  refine RL_nil (X_then (?_))
                  refine C_cond rfl (fun hb68 => ?_) (fun hb68 => ?_)
                  · skip
                    try simp only [decide_eq_true_eq, decide_eq_false_iff_not, Bool.not_eq_true', Bool.not_eq_false', Decidable.not_not, Int.not_lt, Int.not_le, Bool.or_eq_true, Bool.and_eq_true, Bool.or_eq_false_iff, Bool.and_eq_false_iff] at hb68
                    refine C_seq (C_region (RL_q rfl (Yd_assign rfl) (RL_nil (X_then (C_ret (X_thenR (X_ret1 rfl rfl ?_)))))))
                    simp only [hb19, Bool.false_eq_true, false_iff, true_iff] at hsame
                    refine ⟨congrArg (fun n => Ending.returned (.int .i64 n)) ?_, hE⟩
                    unfold rCheck
                    repeat' split
                    all_goals first | rfl | omega
                  · skip
                    try simp only [decide_eq_true_eq, decide_eq_false_iff_not, Bool.not_eq_true', Bool.not_eq_false', Decidable.not_not, Int.not_lt, Int.not_le, Bool.or_eq_true, Bool.and_eq_true, Bool.or_eq_false_iff, Bool.and_eq_false_iff] at hb68
                    refine C_skip (X_then (C_seq (C_region (RL_q rfl (Yd_assign rfl) (RL_nil (X_then (C_ret (X_ret1 rfl rfl ?_))))))))
                    simp only [hb19, Bool.false_eq_true, false_iff, true_iff] at hsame
                    refine ⟨congrArg (fun n => Ending.returned (.int .i64 n)) ?_, hE⟩
                    unfold rCheck
                    repeat' split
                    all_goals first | rfl | omega
theorem Check_2 {lo B : Nat} (r : Rq) (pages : Int) (w : World) (hr : RqAt w lo B r) (ho : r.op = 2) :
    Calls Try.prog 38 #[.agg #[.int .i64 r.op, .int .i64 r.page, .int .i64 r.off, .int .i64 r.len, .slice r.A r.n r.c], .int .i64 pages] w fun e w' => e = .returned (.int .i64 (rCheck r pages)) ∧ Ext w w' := by
  have hE := Ext.refl w
  refine calls_of (l := [.agg #[.int .i64 r.op, .int .i64 r.page, .int .i64 r.off, .int .i64 r.len, .slice r.A r.n r.c], .int .i64 pages]) (N := 69) Try.func38 rfl rfl rfl ?_
  refine C_seq (C_region (RL_l rfl (Ld_box rfl ?_)))
  have hg_2 := hE.size
  intro W1 he1 hz1 hB2
  replace hE := Ext.trans hE he1
  replace hr := hr.ext he1
  refine RL_q rfl (Yd_assign rfl) (RL_nil (X_then (C_seq (C_seq (?_)))))
  refine C_regionD (NoB) (l := [(0, true), (1, true), (2, false), (3, true), (4, true), (5, true), (7, true), (8, true), (10, true), (6, false), (9, true), (11, false), (12, false), (13, true), (14, true)]) (by kernel_rfl) (by kernel_rfl) rfl (by kernel_rfl) (fun _ _ d _ _ h => by cases d <;> exact h) ?_
  intro W2 he2 hh2
  replace hE := Ext.trans hE he2
  replace hr := hr.ext he2
  replace hB2 := hB2.ext he2
  have hs2 := he2.size
  refine RO_q rfl rfl (Yd_fld (off := 0) Try.underlying53 (by kernel_rfl) rfl) (RO_q rfl rfl (Yd_load Try.underlying3 rfl rfl (fun W hW => (ldB hB2 rfl) W hW.ext)) (RO_l rfl rfl (Ld_call Try.func41 rfl (by kernel_rfl) rfl (Name_c _ _) ?_)))
  rintro e W3 ⟨rfl, he3⟩
  refine ⟨_, rfl, ?_⟩
  refine ⟨Kp.of_ext he3, ?_⟩
  replace hE := Ext.trans hE he3
  replace hr := hr.ext he3
  replace hB2 := hB2.ext he3
  have hs3 := he3.size
  refine RO_q rfl rfl (Yd_eqlS rfl rfl) (RO_q rfl rfl (Yd_move rfl) (?_))
  refine RO_is (d := 9) (b' := false) rfl (rName_ne (by omega) (by omega)) ?_
  refine RO_gq rfl rfl rfl rfl (Yd_loadA Try.underlying53 rfl (by kernel_rfl) rfl (fun W hW => (ldBA hB2) W hW.ext)) (RO_gq rfl rfl rfl rfl (Yd_fld (off := 0) Try.underlying53 (by kernel_rfl) rfl) (RO_gq rfl rfl rfl rfl (Yd_load Try.underlying3 rfl rfl (fun W hW => (ldB hB2 rfl) W hW.ext)) (RO_gq rfl rfl rfl rfl (Yd_loadA Try.underlying53 rfl (by kernel_rfl) rfl (fun W hW => (ldBA hB2) W hW.ext)) (RO_gl rfl rfl rfl rfl (Ld_call Try.func52 rfl (by kernel_rfl) rfl (named_c _) ?_)))))
  rintro e W4 ⟨rfl, he4⟩
  refine ⟨_, rfl, ?_⟩
  refine ⟨Kp.of_ext he4, ?_⟩
  replace hE := Ext.trans hE he4
  replace hr := hr.ext he4
  replace hB2 := hB2.ext he4
  have hs4 := he4.size
  refine RO_gq rfl rfl rfl rfl (Yd_index Try.underlying76 (by kernel_rfl) Try.underlying55 rfl rfl rfl (by omega) (by omega) (by rw [ho]; rfl)) (RO_gl rfl rfl rfl rfl (Ld_callV rfl Try.func58 rfl (by kernel_rfl) rfl (named3_c r _ hr) ?_))
  rintro e W5 ⟨rfl, he5⟩
  refine ⟨_, rfl, ?_⟩
  refine ⟨Kp.of_ext he5, ?_⟩
  replace hE := Ext.trans hE he5
  replace hr := hr.ext he5
  replace hB2 := hB2.ext he5
  have hs5 := he5.size
  refine RO_gl rfl rfl rfl rfl (Ld_call Try.func43 rfl (by kernel_rfl) rfl (Same_c r (rNamed 3 r) _ hr (rNamed_at 3 hr)) ?_)
  rintro e W6 ⟨rfl, he6⟩
  refine ⟨_, rfl, ?_⟩
  refine ⟨Kp.of_ext he6, ?_⟩
  replace hE := Ext.trans hE he6
  replace hr := hr.ext he6
  replace hB2 := hB2.ext he6
  have hs6 := he6.size
  have hnil : r.d = [] ↔ r.n = 0 := by rw [nil_iff, hr.ln]
  have hsame : rSame r (rNamed 3 r) = true ↔ (r.n = 0) := by simp [rSame, rNamed, hnil, and_assoc]
  refine RO_gq rfl rfl rfl rfl (Yd_not rfl) (RO_q rfl rfl (Yd_pickF rfl rfl) (RO_nil (X_then (?_))))
  refine C_cond rfl (fun hb19 => ?_) (fun hb19 => ?_)
  · skip
    try simp only [decide_eq_true_eq, decide_eq_false_iff_not, Bool.not_eq_true', Bool.not_eq_false', Decidable.not_not, Int.not_lt, Int.not_le, Bool.or_eq_true, Bool.and_eq_true, Bool.or_eq_false_iff, Bool.and_eq_false_iff] at hb19
    refine C_seq (C_region (RL_q rfl (Yd_assign rfl) (RL_nil (X_then (C_ret (X_thenR (X_ret1 rfl rfl ?_)))))))
    simp only [hb19, Bool.false_eq_true, false_iff, true_iff] at hsame
    refine ⟨congrArg (fun n => Ending.returned (.int .i64 n)) ?_, hE⟩
    unfold rCheck
    repeat' split
    all_goals first | rfl | omega
  · skip
    try simp only [decide_eq_true_eq, decide_eq_false_iff_not, Bool.not_eq_true', Bool.not_eq_false', Decidable.not_not, Int.not_lt, Int.not_le, Bool.or_eq_true, Bool.and_eq_true, Bool.or_eq_false_iff, Bool.and_eq_false_iff] at hb19
    refine C_skip (X_then (C_seq (C_seq (C_region (RL_q rfl (Yd_fld (off := 0) Try.underlying53 (by kernel_rfl) rfl) (RL_q rfl (Yd_load Try.underlying3 rfl rfl (ldB hB2 rfl)) (RL_q rfl (Yd_neq rfl rfl) (RL_q rfl (Yd_move rfl) (?_)))))))))
    apply RL_and (dj := 23) 27 4 rfl
    · intro hb23
      try simp only [decide_eq_true_eq, decide_eq_false_iff_not, Bool.not_eq_true', Bool.not_eq_false', Decidable.not_not, Int.not_lt, Int.not_le, Bool.or_eq_true, Bool.and_eq_true, Bool.or_eq_false_iff, Bool.and_eq_false_iff] at hb23
      refine QL_gq rfl rfl rfl (Yd_fld (off := 0) Try.underlying53 (by kernel_rfl) rfl) (QL_gq rfl rfl rfl (Yd_load Try.underlying3 rfl rfl (ldB hB2 rfl)) (QL_gq rfl rfl rfl (Yd_neq rfl rfl) (QL_q rfl (Yd_pickT rfl rfl) ((QL_nil 4 rfl rfl rfl)))))
    · intro hb23
      try simp only [decide_eq_true_eq, decide_eq_false_iff_not, Bool.not_eq_true', Bool.not_eq_false', Decidable.not_not, Int.not_lt, Int.not_le, Bool.or_eq_true, Bool.and_eq_true, Bool.or_eq_false_iff, Bool.and_eq_false_iff] at hb23
      refine QL_gn rfl rfl rfl rfl (QL_gn rfl rfl rfl rfl (QL_gn rfl rfl rfl rfl (QL_q rfl (Yd_pickF rfl rfl) ((QL_nil 4 rfl rfl rfl)))))
    · skip
      refine RL_q rfl (Yd_move rfl) (?_)
      apply RL_and (dj := 28) 38 10 rfl
      · intro hb28
        try simp only [decide_eq_true_eq, decide_eq_false_iff_not, Bool.not_eq_true', Bool.not_eq_false', Decidable.not_not, Int.not_lt, Int.not_le, Bool.or_eq_true, Bool.and_eq_true, Bool.or_eq_false_iff, Bool.and_eq_false_iff] at hb28
        refine QL_gq rfl rfl rfl (Yd_fld (off := 1) Try.underlying53 (by kernel_rfl) rfl) (QL_gq rfl rfl rfl (Yd_load Try.underlying3 rfl rfl (ldB hB2 rfl)) (QL_gq rfl rfl rfl (Yd_lss rfl rfl) (QL_gq rfl rfl rfl (Yd_move rfl) (?_))))
        apply QL_or (dj := 32) 37 5 rfl
        · intro hb32
          try simp only [decide_eq_true_eq, decide_eq_false_iff_not, Bool.not_eq_true', Bool.not_eq_false', Decidable.not_not, Int.not_lt, Int.not_le, Bool.or_eq_true, Bool.and_eq_true, Bool.or_eq_false_iff, Bool.and_eq_false_iff] at hb32
          refine QL_gq rfl rfl rfl (Yd_fld (off := 1) Try.underlying53 (by kernel_rfl) rfl) (QL_gq rfl rfl rfl (Yd_load Try.underlying3 rfl rfl (ldB hB2 rfl)) (QL_gq rfl rfl rfl (Yd_move rfl) (QL_gq rfl rfl rfl (Yd_geq rfl rfl) (QL_gq rfl rfl rfl (Yd_pickF rfl rfl) ((QL_nil 5 rfl rfl rfl))))))
        · intro hb32
          try simp only [decide_eq_true_eq, decide_eq_false_iff_not, Bool.not_eq_true', Bool.not_eq_false', Decidable.not_not, Int.not_lt, Int.not_le, Bool.or_eq_true, Bool.and_eq_true, Bool.or_eq_false_iff, Bool.and_eq_false_iff] at hb32
          refine QL_gn rfl rfl rfl rfl (QL_gn rfl rfl rfl rfl (QL_gn rfl rfl rfl rfl (QL_gn rfl rfl rfl rfl (QL_gq rfl rfl rfl (Yd_pickT rfl rfl) ((QL_nil 5 rfl rfl rfl))))))
        · skip
          refine QL_q rfl (Yd_pickT rfl rfl) ((QL_nil 6 rfl rfl rfl))
      · intro hb28
        try simp only [decide_eq_true_eq, decide_eq_false_iff_not, Bool.not_eq_true', Bool.not_eq_false', Decidable.not_not, Int.not_lt, Int.not_le, Bool.or_eq_true, Bool.and_eq_true, Bool.or_eq_false_iff, Bool.and_eq_false_iff] at hb28
        refine QL_gn rfl rfl rfl rfl (QL_gn rfl rfl rfl rfl (QL_gn rfl rfl rfl rfl (QL_gn rfl rfl rfl rfl (QL_gu rfl rfl rfl (QL_gu rfl rfl rfl (QL_gu rfl rfl rfl (QL_gu rfl rfl rfl (QL_gn rfl rfl rfl rfl (QL_q rfl (Yd_pickF rfl rfl) ((QL_nil 10 rfl rfl rfl)))))))))))
      · skip
        refine RL_nil (X_then (?_))
        refine C_cond rfl (fun hb38 => ?_) (fun hb38 => ?_)
        · skip
          try simp only [decide_eq_true_eq, decide_eq_false_iff_not, Bool.not_eq_true', Bool.not_eq_false', Decidable.not_not, Int.not_lt, Int.not_le, Bool.or_eq_true, Bool.and_eq_true, Bool.or_eq_false_iff, Bool.and_eq_false_iff] at hb38
          refine C_seq (C_region (RL_q rfl (Yd_assign rfl) (RL_nil (X_then (C_ret (X_thenR (X_ret1 rfl rfl ?_)))))))
          simp only [hb19, Bool.false_eq_true, false_iff, true_iff] at hsame
          refine ⟨congrArg (fun n => Ending.returned (.int .i64 n)) ?_, hE⟩
          unfold rCheck
          repeat' split
          all_goals first | rfl | omega
        · skip
          try simp only [decide_eq_true_eq, decide_eq_false_iff_not, Bool.not_eq_true', Bool.not_eq_false', Decidable.not_not, Int.not_lt, Int.not_le, Bool.or_eq_true, Bool.and_eq_true, Bool.or_eq_false_iff, Bool.and_eq_false_iff] at hb38
          refine C_skip (X_then (C_seq (C_seq (C_region (RL_q rfl (Yd_fld (off := 2) Try.underlying53 (by kernel_rfl) rfl) (RL_q rfl (Yd_load Try.underlying3 rfl rfl (ldB hB2 rfl)) (RL_q rfl (Yd_lss rfl rfl) (RL_q rfl (Yd_move rfl) (?_)))))))))
          apply RL_or (dj := 42) 46 4 rfl
          · intro hb42
            try simp only [decide_eq_true_eq, decide_eq_false_iff_not, Bool.not_eq_true', Bool.not_eq_false', Decidable.not_not, Int.not_lt, Int.not_le, Bool.or_eq_true, Bool.and_eq_true, Bool.or_eq_false_iff, Bool.and_eq_false_iff] at hb42
            refine QL_gq rfl rfl rfl (Yd_fld (off := 2) Try.underlying53 (by kernel_rfl) rfl) (QL_gq rfl rfl rfl (Yd_load Try.underlying3 rfl rfl (ldB hB2 rfl)) (QL_gq rfl rfl rfl (Yd_gtr rfl rfl) (QL_q rfl (Yd_pickF rfl rfl) ((QL_nil 4 rfl rfl rfl)))))
          · intro hb42
            try simp only [decide_eq_true_eq, decide_eq_false_iff_not, Bool.not_eq_true', Bool.not_eq_false', Decidable.not_not, Int.not_lt, Int.not_le, Bool.or_eq_true, Bool.and_eq_true, Bool.or_eq_false_iff, Bool.and_eq_false_iff] at hb42
            refine QL_gn rfl rfl rfl rfl (QL_gn rfl rfl rfl rfl (QL_gn rfl rfl rfl rfl (QL_q rfl (Yd_pickT rfl rfl) ((QL_nil 4 rfl rfl rfl)))))
          · skip
            refine RL_q rfl (Yd_move rfl) (?_)
            apply RL_or (dj := 47) 51 4 rfl
            · intro hb47
              try simp only [decide_eq_true_eq, decide_eq_false_iff_not, Bool.not_eq_true', Bool.not_eq_false', Decidable.not_not, Int.not_lt, Int.not_le, Bool.or_eq_true, Bool.and_eq_true, Bool.or_eq_false_iff, Bool.and_eq_false_iff] at hb47
              refine QL_gq rfl rfl rfl (Yd_fld (off := 3) Try.underlying53 (by kernel_rfl) rfl) (QL_gq rfl rfl rfl (Yd_load Try.underlying3 rfl rfl (ldB hB2 rfl)) (QL_gq rfl rfl rfl (Yd_lss rfl rfl) (QL_q rfl (Yd_pickF rfl rfl) ((QL_nil 4 rfl rfl rfl)))))
            · intro hb47
              try simp only [decide_eq_true_eq, decide_eq_false_iff_not, Bool.not_eq_true', Bool.not_eq_false', Decidable.not_not, Int.not_lt, Int.not_le, Bool.or_eq_true, Bool.and_eq_true, Bool.or_eq_false_iff, Bool.and_eq_false_iff] at hb47
              refine QL_gn rfl rfl rfl rfl (QL_gn rfl rfl rfl rfl (QL_gn rfl rfl rfl rfl (QL_q rfl (Yd_pickT rfl rfl) ((QL_nil 4 rfl rfl rfl)))))
            · skip
              refine RL_q rfl (Yd_move rfl) (?_)
              apply RL_or (dj := 52) 59 7 rfl
              · intro hb52
                try simp only [decide_eq_true_eq, decide_eq_false_iff_not, Bool.not_eq_true', Bool.not_eq_false', Decidable.not_not, Int.not_lt, Int.not_le, Bool.or_eq_true, Bool.and_eq_true, Bool.or_eq_false_iff, Bool.and_eq_false_iff] at hb52
                refine QL_gq rfl rfl rfl (Yd_fld (off := 3) Try.underlying53 (by kernel_rfl) rfl) (QL_gq rfl rfl rfl (Yd_load Try.underlying3 rfl rfl (ldB hB2 rfl)) (QL_gq rfl rfl rfl (Yd_fld (off := 2) Try.underlying53 (by kernel_rfl) rfl) (QL_gq rfl rfl rfl (Yd_load Try.underlying3 rfl rfl (ldB hB2 rfl)) (QL_gq rfl rfl rfl (Yd_sub rfl rfl (i64w (by omega) (by omega))) (QL_gq rfl rfl rfl (Yd_gtr rfl rfl) (QL_q rfl (Yd_pickF rfl rfl) ((QL_nil 7 rfl rfl rfl))))))))
              · intro hb52
                try simp only [decide_eq_true_eq, decide_eq_false_iff_not, Bool.not_eq_true', Bool.not_eq_false', Decidable.not_not, Int.not_lt, Int.not_le, Bool.or_eq_true, Bool.and_eq_true, Bool.or_eq_false_iff, Bool.and_eq_false_iff] at hb52
                refine QL_gn rfl rfl rfl rfl (QL_gn rfl rfl rfl rfl (QL_gn rfl rfl rfl rfl (QL_gn rfl rfl rfl rfl (QL_gn rfl rfl rfl rfl (QL_gn rfl rfl rfl rfl (QL_q rfl (Yd_pickT rfl rfl) ((QL_nil 7 rfl rfl rfl))))))))
              · skip
                refine RL_q rfl (Yd_move rfl) (?_)
                apply RL_or (dj := 60) 68 8 rfl
                · intro hb60
                  try simp only [decide_eq_true_eq, decide_eq_false_iff_not, Bool.not_eq_true', Bool.not_eq_false', Decidable.not_not, Int.not_lt, Int.not_le, Bool.or_eq_true, Bool.and_eq_true, Bool.or_eq_false_iff, Bool.and_eq_false_iff] at hb60
                  refine QL_gq rfl rfl rfl (Yd_fld (off := 4) Try.underlying53 (by kernel_rfl) rfl) (QL_gq rfl rfl rfl (Yd_load Try.underlying24 rfl rfl (ldB hB2 rfl)) (QL_gq rfl rfl rfl (Yd_len Try.underlying24 rfl) (QL_gq rfl rfl rfl (Yd_fld (off := 2) Try.underlying53 (by kernel_rfl) rfl) (QL_gq rfl rfl rfl (Yd_load Try.underlying3 rfl rfl (ldB hB2 rfl)) (QL_gq rfl rfl rfl (Yd_sub rfl rfl (i64w (by omega) (by omega))) (QL_gq rfl rfl rfl (Yd_gtr rfl rfl) (QL_q rfl (Yd_pickF rfl rfl) ((QL_nil 8 rfl rfl rfl)))))))))
                · intro hb60
                  try simp only [decide_eq_true_eq, decide_eq_false_iff_not, Bool.not_eq_true', Bool.not_eq_false', Decidable.not_not, Int.not_lt, Int.not_le, Bool.or_eq_true, Bool.and_eq_true, Bool.or_eq_false_iff, Bool.and_eq_false_iff] at hb60
                  refine QL_gn rfl rfl rfl rfl (QL_gn rfl rfl rfl rfl (QL_gn rfl rfl rfl rfl (QL_gn rfl rfl rfl rfl (QL_gn rfl rfl rfl rfl (QL_gn rfl rfl rfl rfl (QL_gn rfl rfl rfl rfl (QL_q rfl (Yd_pickT rfl rfl) ((QL_nil 8 rfl rfl rfl)))))))))
                · skip
                  refine RL_nil (X_then (?_))
                  refine C_cond rfl (fun hb68 => ?_) (fun hb68 => ?_)
                  · skip
                    try simp only [decide_eq_true_eq, decide_eq_false_iff_not, Bool.not_eq_true', Bool.not_eq_false', Decidable.not_not, Int.not_lt, Int.not_le, Bool.or_eq_true, Bool.and_eq_true, Bool.or_eq_false_iff, Bool.and_eq_false_iff] at hb68
                    refine C_seq (C_region (RL_q rfl (Yd_assign rfl) (RL_nil (X_then (C_ret (X_thenR (X_ret1 rfl rfl ?_)))))))
                    simp only [hb19, Bool.false_eq_true, false_iff, true_iff] at hsame
                    refine ⟨congrArg (fun n => Ending.returned (.int .i64 n)) ?_, hE⟩
                    unfold rCheck
                    repeat' split
                    all_goals first | rfl | omega
                  · skip
                    try simp only [decide_eq_true_eq, decide_eq_false_iff_not, Bool.not_eq_true', Bool.not_eq_false', Decidable.not_not, Int.not_lt, Int.not_le, Bool.or_eq_true, Bool.and_eq_true, Bool.or_eq_false_iff, Bool.and_eq_false_iff] at hb68
                    refine C_skip (X_then (C_seq (C_region (RL_q rfl (Yd_assign rfl) (RL_nil (X_then (C_ret (X_ret1 rfl rfl ?_))))))))
                    simp only [hb19, Bool.false_eq_true, false_iff, true_iff] at hsame
                    refine ⟨congrArg (fun n => Ending.returned (.int .i64 n)) ?_, hE⟩
                    unfold rCheck
                    repeat' split
                    all_goals first | rfl | omega
theorem Check_3 {lo B : Nat} (r : Rq) (pages : Int) (w : World) (hr : RqAt w lo B r) (ho : r.op = 3) :
    Calls Try.prog 38 #[.agg #[.int .i64 r.op, .int .i64 r.page, .int .i64 r.off, .int .i64 r.len, .slice r.A r.n r.c], .int .i64 pages] w fun e w' => e = .returned (.int .i64 (rCheck r pages)) ∧ Ext w w' := by
  have hE := Ext.refl w
  refine calls_of (l := [.agg #[.int .i64 r.op, .int .i64 r.page, .int .i64 r.off, .int .i64 r.len, .slice r.A r.n r.c], .int .i64 pages]) (N := 69) Try.func38 rfl rfl rfl ?_
  refine C_seq (C_region (RL_l rfl (Ld_box rfl ?_)))
  have hg_2 := hE.size
  intro W1 he1 hz1 hB2
  replace hE := Ext.trans hE he1
  replace hr := hr.ext he1
  refine RL_q rfl (Yd_assign rfl) (RL_nil (X_then (C_seq (C_seq (?_)))))
  refine C_regionD (NoB) (l := [(0, true), (1, true), (2, false), (3, true), (4, true), (5, true), (7, true), (8, true), (10, true), (6, false), (9, true), (11, false), (12, false), (13, true), (14, true)]) (by kernel_rfl) (by kernel_rfl) rfl (by kernel_rfl) (fun _ _ d _ _ h => by cases d <;> exact h) ?_
  intro W2 he2 hh2
  replace hE := Ext.trans hE he2
  replace hr := hr.ext he2
  replace hB2 := hB2.ext he2
  have hs2 := he2.size
  refine RO_q rfl rfl (Yd_fld (off := 0) Try.underlying53 (by kernel_rfl) rfl) (RO_q rfl rfl (Yd_load Try.underlying3 rfl rfl (fun W hW => (ldB hB2 rfl) W hW.ext)) (RO_l rfl rfl (Ld_call Try.func41 rfl (by kernel_rfl) rfl (Name_c _ _) ?_)))
  rintro e W3 ⟨rfl, he3⟩
  refine ⟨_, rfl, ?_⟩
  refine ⟨Kp.of_ext he3, ?_⟩
  replace hE := Ext.trans hE he3
  replace hr := hr.ext he3
  replace hB2 := hB2.ext he3
  have hs3 := he3.size
  refine RO_q rfl rfl (Yd_eqlS rfl rfl) (RO_q rfl rfl (Yd_move rfl) (?_))
  refine RO_is (d := 9) (b' := false) rfl (rName_ne (by omega) (by omega)) ?_
  refine RO_gq rfl rfl rfl rfl (Yd_loadA Try.underlying53 rfl (by kernel_rfl) rfl (fun W hW => (ldBA hB2) W hW.ext)) (RO_gq rfl rfl rfl rfl (Yd_fld (off := 0) Try.underlying53 (by kernel_rfl) rfl) (RO_gq rfl rfl rfl rfl (Yd_load Try.underlying3 rfl rfl (fun W hW => (ldB hB2 rfl) W hW.ext)) (RO_gq rfl rfl rfl rfl (Yd_loadA Try.underlying53 rfl (by kernel_rfl) rfl (fun W hW => (ldBA hB2) W hW.ext)) (RO_gl rfl rfl rfl rfl (Ld_call Try.func52 rfl (by kernel_rfl) rfl (named_c _) ?_)))))
  rintro e W4 ⟨rfl, he4⟩
  refine ⟨_, rfl, ?_⟩
  refine ⟨Kp.of_ext he4, ?_⟩
  replace hE := Ext.trans hE he4
  replace hr := hr.ext he4
  replace hB2 := hB2.ext he4
  have hs4 := he4.size
  refine RO_gq rfl rfl rfl rfl (Yd_index Try.underlying76 (by kernel_rfl) Try.underlying55 rfl rfl rfl (by omega) (by omega) (by rw [ho]; rfl)) (RO_gl rfl rfl rfl rfl (Ld_callV rfl Try.func59 rfl (by kernel_rfl) rfl (named4_c r _ hr) ?_))
  rintro e W5 ⟨rfl, he5⟩
  refine ⟨_, rfl, ?_⟩
  refine ⟨Kp.of_ext he5, ?_⟩
  replace hE := Ext.trans hE he5
  replace hr := hr.ext he5
  replace hB2 := hB2.ext he5
  have hs5 := he5.size
  refine RO_gl rfl rfl rfl rfl (Ld_call Try.func43 rfl (by kernel_rfl) rfl (Same_c r (rNamed 4 r) _ hr (rNamed_at 4 hr)) ?_)
  rintro e W6 ⟨rfl, he6⟩
  refine ⟨_, rfl, ?_⟩
  refine ⟨Kp.of_ext he6, ?_⟩
  replace hE := Ext.trans hE he6
  replace hr := hr.ext he6
  replace hB2 := hB2.ext he6
  have hs6 := he6.size
  have hsame : rSame r (rNamed 4 r) = true ↔ (r.len = 0) := by simp [rSame, rNamed]
  refine RO_gq rfl rfl rfl rfl (Yd_not rfl) (RO_q rfl rfl (Yd_pickF rfl rfl) (RO_nil (X_then (?_))))
  refine C_cond rfl (fun hb19 => ?_) (fun hb19 => ?_)
  · skip
    try simp only [decide_eq_true_eq, decide_eq_false_iff_not, Bool.not_eq_true', Bool.not_eq_false', Decidable.not_not, Int.not_lt, Int.not_le, Bool.or_eq_true, Bool.and_eq_true, Bool.or_eq_false_iff, Bool.and_eq_false_iff] at hb19
    refine C_seq (C_region (RL_q rfl (Yd_assign rfl) (RL_nil (X_then (C_ret (X_thenR (X_ret1 rfl rfl ?_)))))))
    simp only [hb19, Bool.false_eq_true, false_iff, true_iff] at hsame
    refine ⟨congrArg (fun n => Ending.returned (.int .i64 n)) ?_, hE⟩
    unfold rCheck
    repeat' split
    all_goals first | rfl | omega
  · skip
    try simp only [decide_eq_true_eq, decide_eq_false_iff_not, Bool.not_eq_true', Bool.not_eq_false', Decidable.not_not, Int.not_lt, Int.not_le, Bool.or_eq_true, Bool.and_eq_true, Bool.or_eq_false_iff, Bool.and_eq_false_iff] at hb19
    refine C_skip (X_then (C_seq (C_seq (C_region (RL_q rfl (Yd_fld (off := 0) Try.underlying53 (by kernel_rfl) rfl) (RL_q rfl (Yd_load Try.underlying3 rfl rfl (ldB hB2 rfl)) (RL_q rfl (Yd_neq rfl rfl) (RL_q rfl (Yd_move rfl) (?_)))))))))
    apply RL_and (dj := 23) 27 4 rfl
    · intro hb23
      try simp only [decide_eq_true_eq, decide_eq_false_iff_not, Bool.not_eq_true', Bool.not_eq_false', Decidable.not_not, Int.not_lt, Int.not_le, Bool.or_eq_true, Bool.and_eq_true, Bool.or_eq_false_iff, Bool.and_eq_false_iff] at hb23
      refine QL_gq rfl rfl rfl (Yd_fld (off := 0) Try.underlying53 (by kernel_rfl) rfl) (QL_gq rfl rfl rfl (Yd_load Try.underlying3 rfl rfl (ldB hB2 rfl)) (QL_gq rfl rfl rfl (Yd_neq rfl rfl) (QL_q rfl (Yd_pickT rfl rfl) ((QL_nil 4 rfl rfl rfl)))))
    · intro hb23
      try simp only [decide_eq_true_eq, decide_eq_false_iff_not, Bool.not_eq_true', Bool.not_eq_false', Decidable.not_not, Int.not_lt, Int.not_le, Bool.or_eq_true, Bool.and_eq_true, Bool.or_eq_false_iff, Bool.and_eq_false_iff] at hb23
      refine QL_gn rfl rfl rfl rfl (QL_gn rfl rfl rfl rfl (QL_gn rfl rfl rfl rfl (QL_q rfl (Yd_pickF rfl rfl) ((QL_nil 4 rfl rfl rfl)))))
    · skip
      refine RL_q rfl (Yd_move rfl) (?_)
      apply RL_and (dj := 28) 38 10 rfl
      · intro hb28
        try simp only [decide_eq_true_eq, decide_eq_false_iff_not, Bool.not_eq_true', Bool.not_eq_false', Decidable.not_not, Int.not_lt, Int.not_le, Bool.or_eq_true, Bool.and_eq_true, Bool.or_eq_false_iff, Bool.and_eq_false_iff] at hb28
        refine QL_gq rfl rfl rfl (Yd_fld (off := 1) Try.underlying53 (by kernel_rfl) rfl) (QL_gq rfl rfl rfl (Yd_load Try.underlying3 rfl rfl (ldB hB2 rfl)) (QL_gq rfl rfl rfl (Yd_lss rfl rfl) (QL_gq rfl rfl rfl (Yd_move rfl) (?_))))
        apply QL_or (dj := 32) 37 5 rfl
        · intro hb32
          try simp only [decide_eq_true_eq, decide_eq_false_iff_not, Bool.not_eq_true', Bool.not_eq_false', Decidable.not_not, Int.not_lt, Int.not_le, Bool.or_eq_true, Bool.and_eq_true, Bool.or_eq_false_iff, Bool.and_eq_false_iff] at hb32
          refine QL_gq rfl rfl rfl (Yd_fld (off := 1) Try.underlying53 (by kernel_rfl) rfl) (QL_gq rfl rfl rfl (Yd_load Try.underlying3 rfl rfl (ldB hB2 rfl)) (QL_gq rfl rfl rfl (Yd_move rfl) (QL_gq rfl rfl rfl (Yd_geq rfl rfl) (QL_gq rfl rfl rfl (Yd_pickF rfl rfl) ((QL_nil 5 rfl rfl rfl))))))
        · intro hb32
          try simp only [decide_eq_true_eq, decide_eq_false_iff_not, Bool.not_eq_true', Bool.not_eq_false', Decidable.not_not, Int.not_lt, Int.not_le, Bool.or_eq_true, Bool.and_eq_true, Bool.or_eq_false_iff, Bool.and_eq_false_iff] at hb32
          refine QL_gn rfl rfl rfl rfl (QL_gn rfl rfl rfl rfl (QL_gn rfl rfl rfl rfl (QL_gn rfl rfl rfl rfl (QL_gq rfl rfl rfl (Yd_pickT rfl rfl) ((QL_nil 5 rfl rfl rfl))))))
        · skip
          refine QL_q rfl (Yd_pickT rfl rfl) ((QL_nil 6 rfl rfl rfl))
      · intro hb28
        try simp only [decide_eq_true_eq, decide_eq_false_iff_not, Bool.not_eq_true', Bool.not_eq_false', Decidable.not_not, Int.not_lt, Int.not_le, Bool.or_eq_true, Bool.and_eq_true, Bool.or_eq_false_iff, Bool.and_eq_false_iff] at hb28
        refine QL_gn rfl rfl rfl rfl (QL_gn rfl rfl rfl rfl (QL_gn rfl rfl rfl rfl (QL_gn rfl rfl rfl rfl (QL_gu rfl rfl rfl (QL_gu rfl rfl rfl (QL_gu rfl rfl rfl (QL_gu rfl rfl rfl (QL_gn rfl rfl rfl rfl (QL_q rfl (Yd_pickF rfl rfl) ((QL_nil 10 rfl rfl rfl)))))))))))
      · skip
        refine RL_nil (X_then (?_))
        refine C_cond rfl (fun hb38 => ?_) (fun hb38 => ?_)
        · skip
          try simp only [decide_eq_true_eq, decide_eq_false_iff_not, Bool.not_eq_true', Bool.not_eq_false', Decidable.not_not, Int.not_lt, Int.not_le, Bool.or_eq_true, Bool.and_eq_true, Bool.or_eq_false_iff, Bool.and_eq_false_iff] at hb38
          refine C_seq (C_region (RL_q rfl (Yd_assign rfl) (RL_nil (X_then (C_ret (X_thenR (X_ret1 rfl rfl ?_)))))))
          simp only [hb19, Bool.false_eq_true, false_iff, true_iff] at hsame
          refine ⟨congrArg (fun n => Ending.returned (.int .i64 n)) ?_, hE⟩
          unfold rCheck
          repeat' split
          all_goals first | rfl | omega
        · skip
          try simp only [decide_eq_true_eq, decide_eq_false_iff_not, Bool.not_eq_true', Bool.not_eq_false', Decidable.not_not, Int.not_lt, Int.not_le, Bool.or_eq_true, Bool.and_eq_true, Bool.or_eq_false_iff, Bool.and_eq_false_iff] at hb38
          refine C_skip (X_then (C_seq (C_seq (C_region (RL_q rfl (Yd_fld (off := 2) Try.underlying53 (by kernel_rfl) rfl) (RL_q rfl (Yd_load Try.underlying3 rfl rfl (ldB hB2 rfl)) (RL_q rfl (Yd_lss rfl rfl) (RL_q rfl (Yd_move rfl) (?_)))))))))
          apply RL_or (dj := 42) 46 4 rfl
          · intro hb42
            try simp only [decide_eq_true_eq, decide_eq_false_iff_not, Bool.not_eq_true', Bool.not_eq_false', Decidable.not_not, Int.not_lt, Int.not_le, Bool.or_eq_true, Bool.and_eq_true, Bool.or_eq_false_iff, Bool.and_eq_false_iff] at hb42
            refine QL_gq rfl rfl rfl (Yd_fld (off := 2) Try.underlying53 (by kernel_rfl) rfl) (QL_gq rfl rfl rfl (Yd_load Try.underlying3 rfl rfl (ldB hB2 rfl)) (QL_gq rfl rfl rfl (Yd_gtr rfl rfl) (QL_q rfl (Yd_pickF rfl rfl) ((QL_nil 4 rfl rfl rfl)))))
          · intro hb42
            try simp only [decide_eq_true_eq, decide_eq_false_iff_not, Bool.not_eq_true', Bool.not_eq_false', Decidable.not_not, Int.not_lt, Int.not_le, Bool.or_eq_true, Bool.and_eq_true, Bool.or_eq_false_iff, Bool.and_eq_false_iff] at hb42
            refine QL_gn rfl rfl rfl rfl (QL_gn rfl rfl rfl rfl (QL_gn rfl rfl rfl rfl (QL_q rfl (Yd_pickT rfl rfl) ((QL_nil 4 rfl rfl rfl)))))
          · skip
            refine RL_q rfl (Yd_move rfl) (?_)
            apply RL_or (dj := 47) 51 4 rfl
            · intro hb47
              try simp only [decide_eq_true_eq, decide_eq_false_iff_not, Bool.not_eq_true', Bool.not_eq_false', Decidable.not_not, Int.not_lt, Int.not_le, Bool.or_eq_true, Bool.and_eq_true, Bool.or_eq_false_iff, Bool.and_eq_false_iff] at hb47
              refine QL_gq rfl rfl rfl (Yd_fld (off := 3) Try.underlying53 (by kernel_rfl) rfl) (QL_gq rfl rfl rfl (Yd_load Try.underlying3 rfl rfl (ldB hB2 rfl)) (QL_gq rfl rfl rfl (Yd_lss rfl rfl) (QL_q rfl (Yd_pickF rfl rfl) ((QL_nil 4 rfl rfl rfl)))))
            · intro hb47
              try simp only [decide_eq_true_eq, decide_eq_false_iff_not, Bool.not_eq_true', Bool.not_eq_false', Decidable.not_not, Int.not_lt, Int.not_le, Bool.or_eq_true, Bool.and_eq_true, Bool.or_eq_false_iff, Bool.and_eq_false_iff] at hb47
              refine QL_gn rfl rfl rfl rfl (QL_gn rfl rfl rfl rfl (QL_gn rfl rfl rfl rfl (QL_q rfl (Yd_pickT rfl rfl) ((QL_nil 4 rfl rfl rfl)))))
            · skip
              refine RL_q rfl (Yd_move rfl) (?_)
              apply RL_or (dj := 52) 59 7 rfl
              · intro hb52
                try simp only [decide_eq_true_eq, decide_eq_false_iff_not, Bool.not_eq_true', Bool.not_eq_false', Decidable.not_not, Int.not_lt, Int.not_le, Bool.or_eq_true, Bool.and_eq_true, Bool.or_eq_false_iff, Bool.and_eq_false_iff] at hb52
                refine QL_gq rfl rfl rfl (Yd_fld (off := 3) Try.underlying53 (by kernel_rfl) rfl) (QL_gq rfl rfl rfl (Yd_load Try.underlying3 rfl rfl (ldB hB2 rfl)) (QL_gq rfl rfl rfl (Yd_fld (off := 2) Try.underlying53 (by kernel_rfl) rfl) (QL_gq rfl rfl rfl (Yd_load Try.underlying3 rfl rfl (ldB hB2 rfl)) (QL_gq rfl rfl rfl (Yd_sub rfl rfl (i64w (by omega) (by omega))) (QL_gq rfl rfl rfl (Yd_gtr rfl rfl) (QL_q rfl (Yd_pickF rfl rfl) ((QL_nil 7 rfl rfl rfl))))))))
              · intro hb52
                try simp only [decide_eq_true_eq, decide_eq_false_iff_not, Bool.not_eq_true', Bool.not_eq_false', Decidable.not_not, Int.not_lt, Int.not_le, Bool.or_eq_true, Bool.and_eq_true, Bool.or_eq_false_iff, Bool.and_eq_false_iff] at hb52
                refine QL_gn rfl rfl rfl rfl (QL_gn rfl rfl rfl rfl (QL_gn rfl rfl rfl rfl (QL_gn rfl rfl rfl rfl (QL_gn rfl rfl rfl rfl (QL_gn rfl rfl rfl rfl (QL_q rfl (Yd_pickT rfl rfl) ((QL_nil 7 rfl rfl rfl))))))))
              · skip
                refine RL_q rfl (Yd_move rfl) (?_)
                apply RL_or (dj := 60) 68 8 rfl
                · intro hb60
                  try simp only [decide_eq_true_eq, decide_eq_false_iff_not, Bool.not_eq_true', Bool.not_eq_false', Decidable.not_not, Int.not_lt, Int.not_le, Bool.or_eq_true, Bool.and_eq_true, Bool.or_eq_false_iff, Bool.and_eq_false_iff] at hb60
                  refine QL_gq rfl rfl rfl (Yd_fld (off := 4) Try.underlying53 (by kernel_rfl) rfl) (QL_gq rfl rfl rfl (Yd_load Try.underlying24 rfl rfl (ldB hB2 rfl)) (QL_gq rfl rfl rfl (Yd_len Try.underlying24 rfl) (QL_gq rfl rfl rfl (Yd_fld (off := 2) Try.underlying53 (by kernel_rfl) rfl) (QL_gq rfl rfl rfl (Yd_load Try.underlying3 rfl rfl (ldB hB2 rfl)) (QL_gq rfl rfl rfl (Yd_sub rfl rfl (i64w (by omega) (by omega))) (QL_gq rfl rfl rfl (Yd_gtr rfl rfl) (QL_q rfl (Yd_pickF rfl rfl) ((QL_nil 8 rfl rfl rfl)))))))))
                · intro hb60
                  try simp only [decide_eq_true_eq, decide_eq_false_iff_not, Bool.not_eq_true', Bool.not_eq_false', Decidable.not_not, Int.not_lt, Int.not_le, Bool.or_eq_true, Bool.and_eq_true, Bool.or_eq_false_iff, Bool.and_eq_false_iff] at hb60
                  refine QL_gn rfl rfl rfl rfl (QL_gn rfl rfl rfl rfl (QL_gn rfl rfl rfl rfl (QL_gn rfl rfl rfl rfl (QL_gn rfl rfl rfl rfl (QL_gn rfl rfl rfl rfl (QL_gn rfl rfl rfl rfl (QL_q rfl (Yd_pickT rfl rfl) ((QL_nil 8 rfl rfl rfl)))))))))
                · skip
                  refine RL_nil (X_then (?_))
                  refine C_cond rfl (fun hb68 => ?_) (fun hb68 => ?_)
                  · skip
                    try simp only [decide_eq_true_eq, decide_eq_false_iff_not, Bool.not_eq_true', Bool.not_eq_false', Decidable.not_not, Int.not_lt, Int.not_le, Bool.or_eq_true, Bool.and_eq_true, Bool.or_eq_false_iff, Bool.and_eq_false_iff] at hb68
                    refine C_seq (C_region (RL_q rfl (Yd_assign rfl) (RL_nil (X_then (C_ret (X_thenR (X_ret1 rfl rfl ?_)))))))
                    simp only [hb19, Bool.false_eq_true, false_iff, true_iff] at hsame
                    refine ⟨congrArg (fun n => Ending.returned (.int .i64 n)) ?_, hE⟩
                    unfold rCheck
                    repeat' split
                    all_goals first | rfl | omega
                  · skip
                    try simp only [decide_eq_true_eq, decide_eq_false_iff_not, Bool.not_eq_true', Bool.not_eq_false', Decidable.not_not, Int.not_lt, Int.not_le, Bool.or_eq_true, Bool.and_eq_true, Bool.or_eq_false_iff, Bool.and_eq_false_iff] at hb68
                    refine C_skip (X_then (C_seq (C_region (RL_q rfl (Yd_assign rfl) (RL_nil (X_then (C_ret (X_ret1 rfl rfl ?_))))))))
                    simp only [hb19, Bool.false_eq_true, false_iff, true_iff] at hsame
                    refine ⟨congrArg (fun n => Ending.returned (.int .i64 n)) ?_, hE⟩
                    unfold rCheck
                    repeat' split
                    all_goals first | rfl | omega
theorem Check_4 {lo B : Nat} (r : Rq) (pages : Int) (w : World) (hr : RqAt w lo B r) (ho : r.op = 4) :
    Calls Try.prog 38 #[.agg #[.int .i64 r.op, .int .i64 r.page, .int .i64 r.off, .int .i64 r.len, .slice r.A r.n r.c], .int .i64 pages] w fun e w' => e = .returned (.int .i64 (rCheck r pages)) ∧ Ext w w' := by
  have hE := Ext.refl w
  refine calls_of (l := [.agg #[.int .i64 r.op, .int .i64 r.page, .int .i64 r.off, .int .i64 r.len, .slice r.A r.n r.c], .int .i64 pages]) (N := 69) Try.func38 rfl rfl rfl ?_
  refine C_seq (C_region (RL_l rfl (Ld_box rfl ?_)))
  have hg_2 := hE.size
  intro W1 he1 hz1 hB2
  replace hE := Ext.trans hE he1
  replace hr := hr.ext he1
  refine RL_q rfl (Yd_assign rfl) (RL_nil (X_then (C_seq (C_seq (?_)))))
  refine C_regionD (NoB) (l := [(0, true), (1, true), (2, false), (3, true), (4, true), (5, true), (7, true), (8, true), (10, true), (6, false), (9, true), (11, false), (12, false), (13, true), (14, true)]) (by kernel_rfl) (by kernel_rfl) rfl (by kernel_rfl) (fun _ _ d _ _ h => by cases d <;> exact h) ?_
  intro W2 he2 hh2
  replace hE := Ext.trans hE he2
  replace hr := hr.ext he2
  replace hB2 := hB2.ext he2
  have hs2 := he2.size
  refine RO_q rfl rfl (Yd_fld (off := 0) Try.underlying53 (by kernel_rfl) rfl) (RO_q rfl rfl (Yd_load Try.underlying3 rfl rfl (fun W hW => (ldB hB2 rfl) W hW.ext)) (RO_l rfl rfl (Ld_call Try.func41 rfl (by kernel_rfl) rfl (Name_c _ _) ?_)))
  rintro e W3 ⟨rfl, he3⟩
  refine ⟨_, rfl, ?_⟩
  refine ⟨Kp.of_ext he3, ?_⟩
  replace hE := Ext.trans hE he3
  replace hr := hr.ext he3
  replace hB2 := hB2.ext he3
  have hs3 := he3.size
  refine RO_q rfl rfl (Yd_eqlS rfl rfl) (RO_q rfl rfl (Yd_move rfl) (?_))
  refine RO_is (d := 9) (b' := false) rfl (rName_ne (by omega) (by omega)) ?_
  refine RO_gq rfl rfl rfl rfl (Yd_loadA Try.underlying53 rfl (by kernel_rfl) rfl (fun W hW => (ldBA hB2) W hW.ext)) (RO_gq rfl rfl rfl rfl (Yd_fld (off := 0) Try.underlying53 (by kernel_rfl) rfl) (RO_gq rfl rfl rfl rfl (Yd_load Try.underlying3 rfl rfl (fun W hW => (ldB hB2 rfl) W hW.ext)) (RO_gq rfl rfl rfl rfl (Yd_loadA Try.underlying53 rfl (by kernel_rfl) rfl (fun W hW => (ldBA hB2) W hW.ext)) (RO_gl rfl rfl rfl rfl (Ld_call Try.func52 rfl (by kernel_rfl) rfl (named_c _) ?_)))))
  rintro e W4 ⟨rfl, he4⟩
  refine ⟨_, rfl, ?_⟩
  refine ⟨Kp.of_ext he4, ?_⟩
  replace hE := Ext.trans hE he4
  replace hr := hr.ext he4
  replace hB2 := hB2.ext he4
  have hs4 := he4.size
  refine RO_gq rfl rfl rfl rfl (Yd_index Try.underlying76 (by kernel_rfl) Try.underlying55 rfl rfl rfl (by omega) (by omega) (by rw [ho]; rfl)) (RO_gl rfl rfl rfl rfl (Ld_callV rfl Try.func56 rfl (by kernel_rfl) rfl (named1_c r _ hr) ?_))
  rintro e W5 ⟨rfl, he5⟩
  refine ⟨_, rfl, ?_⟩
  refine ⟨Kp.of_ext he5, ?_⟩
  replace hE := Ext.trans hE he5
  replace hr := hr.ext he5
  replace hB2 := hB2.ext he5
  have hs5 := he5.size
  refine RO_gl rfl rfl rfl rfl (Ld_call Try.func43 rfl (by kernel_rfl) rfl (Same_c r (rNamed 1 r) _ hr (rNamed_at 1 hr)) ?_)
  rintro e W6 ⟨rfl, he6⟩
  refine ⟨_, rfl, ?_⟩
  refine ⟨Kp.of_ext he6, ?_⟩
  replace hE := Ext.trans hE he6
  replace hr := hr.ext he6
  replace hB2 := hB2.ext he6
  have hs6 := he6.size
  have hnil : r.d = [] ↔ r.n = 0 := by rw [nil_iff, hr.ln]
  have hsame : rSame r (rNamed 1 r) = true ↔ (r.off = 0 ∧ r.len = 0 ∧ r.n = 0) := by simp [rSame, rNamed, hnil, and_assoc]
  refine RO_gq rfl rfl rfl rfl (Yd_not rfl) (RO_q rfl rfl (Yd_pickF rfl rfl) (RO_nil (X_then (?_))))
  refine C_cond rfl (fun hb19 => ?_) (fun hb19 => ?_)
  · skip
    try simp only [decide_eq_true_eq, decide_eq_false_iff_not, Bool.not_eq_true', Bool.not_eq_false', Decidable.not_not, Int.not_lt, Int.not_le, Bool.or_eq_true, Bool.and_eq_true, Bool.or_eq_false_iff, Bool.and_eq_false_iff] at hb19
    refine C_seq (C_region (RL_q rfl (Yd_assign rfl) (RL_nil (X_then (C_ret (X_thenR (X_ret1 rfl rfl ?_)))))))
    simp only [hb19, Bool.false_eq_true, false_iff, true_iff] at hsame
    refine ⟨congrArg (fun n => Ending.returned (.int .i64 n)) ?_, hE⟩
    unfold rCheck
    repeat' split
    all_goals first | rfl | omega
  · skip
    try simp only [decide_eq_true_eq, decide_eq_false_iff_not, Bool.not_eq_true', Bool.not_eq_false', Decidable.not_not, Int.not_lt, Int.not_le, Bool.or_eq_true, Bool.and_eq_true, Bool.or_eq_false_iff, Bool.and_eq_false_iff] at hb19
    refine C_skip (X_then (C_seq (C_seq (C_region (RL_q rfl (Yd_fld (off := 0) Try.underlying53 (by kernel_rfl) rfl) (RL_q rfl (Yd_load Try.underlying3 rfl rfl (ldB hB2 rfl)) (RL_q rfl (Yd_neq rfl rfl) (RL_q rfl (Yd_move rfl) (?_)))))))))
    apply RL_and (dj := 23) 27 4 rfl
    · intro hb23
      try simp only [decide_eq_true_eq, decide_eq_false_iff_not, Bool.not_eq_true', Bool.not_eq_false', Decidable.not_not, Int.not_lt, Int.not_le, Bool.or_eq_true, Bool.and_eq_true, Bool.or_eq_false_iff, Bool.and_eq_false_iff] at hb23
      refine QL_gq rfl rfl rfl (Yd_fld (off := 0) Try.underlying53 (by kernel_rfl) rfl) (QL_gq rfl rfl rfl (Yd_load Try.underlying3 rfl rfl (ldB hB2 rfl)) (QL_gq rfl rfl rfl (Yd_neq rfl rfl) (QL_q rfl (Yd_pickT rfl rfl) ((QL_nil 4 rfl rfl rfl)))))
    · intro hb23
      try simp only [decide_eq_true_eq, decide_eq_false_iff_not, Bool.not_eq_true', Bool.not_eq_false', Decidable.not_not, Int.not_lt, Int.not_le, Bool.or_eq_true, Bool.and_eq_true, Bool.or_eq_false_iff, Bool.and_eq_false_iff] at hb23
      refine QL_gn rfl rfl rfl rfl (QL_gn rfl rfl rfl rfl (QL_gn rfl rfl rfl rfl (QL_q rfl (Yd_pickF rfl rfl) ((QL_nil 4 rfl rfl rfl)))))
    · skip
      refine RL_q rfl (Yd_move rfl) (?_)
      apply RL_and (dj := 28) 38 10 rfl
      · intro hb28
        try simp only [decide_eq_true_eq, decide_eq_false_iff_not, Bool.not_eq_true', Bool.not_eq_false', Decidable.not_not, Int.not_lt, Int.not_le, Bool.or_eq_true, Bool.and_eq_true, Bool.or_eq_false_iff, Bool.and_eq_false_iff] at hb28
        refine QL_gq rfl rfl rfl (Yd_fld (off := 1) Try.underlying53 (by kernel_rfl) rfl) (QL_gq rfl rfl rfl (Yd_load Try.underlying3 rfl rfl (ldB hB2 rfl)) (QL_gq rfl rfl rfl (Yd_lss rfl rfl) (QL_gq rfl rfl rfl (Yd_move rfl) (?_))))
        apply QL_or (dj := 32) 37 5 rfl
        · intro hb32
          try simp only [decide_eq_true_eq, decide_eq_false_iff_not, Bool.not_eq_true', Bool.not_eq_false', Decidable.not_not, Int.not_lt, Int.not_le, Bool.or_eq_true, Bool.and_eq_true, Bool.or_eq_false_iff, Bool.and_eq_false_iff] at hb32
          refine QL_gq rfl rfl rfl (Yd_fld (off := 1) Try.underlying53 (by kernel_rfl) rfl) (QL_gq rfl rfl rfl (Yd_load Try.underlying3 rfl rfl (ldB hB2 rfl)) (QL_gq rfl rfl rfl (Yd_move rfl) (QL_gq rfl rfl rfl (Yd_geq rfl rfl) (QL_gq rfl rfl rfl (Yd_pickF rfl rfl) ((QL_nil 5 rfl rfl rfl))))))
        · intro hb32
          try simp only [decide_eq_true_eq, decide_eq_false_iff_not, Bool.not_eq_true', Bool.not_eq_false', Decidable.not_not, Int.not_lt, Int.not_le, Bool.or_eq_true, Bool.and_eq_true, Bool.or_eq_false_iff, Bool.and_eq_false_iff] at hb32
          refine QL_gn rfl rfl rfl rfl (QL_gn rfl rfl rfl rfl (QL_gn rfl rfl rfl rfl (QL_gn rfl rfl rfl rfl (QL_gq rfl rfl rfl (Yd_pickT rfl rfl) ((QL_nil 5 rfl rfl rfl))))))
        · skip
          refine QL_q rfl (Yd_pickT rfl rfl) ((QL_nil 6 rfl rfl rfl))
      · intro hb28
        try simp only [decide_eq_true_eq, decide_eq_false_iff_not, Bool.not_eq_true', Bool.not_eq_false', Decidable.not_not, Int.not_lt, Int.not_le, Bool.or_eq_true, Bool.and_eq_true, Bool.or_eq_false_iff, Bool.and_eq_false_iff] at hb28
        refine QL_gn rfl rfl rfl rfl (QL_gn rfl rfl rfl rfl (QL_gn rfl rfl rfl rfl (QL_gn rfl rfl rfl rfl (QL_gu rfl rfl rfl (QL_gu rfl rfl rfl (QL_gu rfl rfl rfl (QL_gu rfl rfl rfl (QL_gn rfl rfl rfl rfl (QL_q rfl (Yd_pickF rfl rfl) ((QL_nil 10 rfl rfl rfl)))))))))))
      · skip
        refine RL_nil (X_then (?_))
        refine C_cond rfl (fun hb38 => ?_) (fun hb38 => ?_)
        · skip
          try simp only [decide_eq_true_eq, decide_eq_false_iff_not, Bool.not_eq_true', Bool.not_eq_false', Decidable.not_not, Int.not_lt, Int.not_le, Bool.or_eq_true, Bool.and_eq_true, Bool.or_eq_false_iff, Bool.and_eq_false_iff] at hb38
          refine C_seq (C_region (RL_q rfl (Yd_assign rfl) (RL_nil (X_then (C_ret (X_thenR (X_ret1 rfl rfl ?_)))))))
          simp only [hb19, Bool.false_eq_true, false_iff, true_iff] at hsame
          refine ⟨congrArg (fun n => Ending.returned (.int .i64 n)) ?_, hE⟩
          unfold rCheck
          repeat' split
          all_goals first | rfl | omega
        · skip
          try simp only [decide_eq_true_eq, decide_eq_false_iff_not, Bool.not_eq_true', Bool.not_eq_false', Decidable.not_not, Int.not_lt, Int.not_le, Bool.or_eq_true, Bool.and_eq_true, Bool.or_eq_false_iff, Bool.and_eq_false_iff] at hb38
          refine C_skip (X_then (C_seq (C_seq (C_region (RL_q rfl (Yd_fld (off := 2) Try.underlying53 (by kernel_rfl) rfl) (RL_q rfl (Yd_load Try.underlying3 rfl rfl (ldB hB2 rfl)) (RL_q rfl (Yd_lss rfl rfl) (RL_q rfl (Yd_move rfl) (?_)))))))))
          apply RL_or (dj := 42) 46 4 rfl
          · intro hb42
            try simp only [decide_eq_true_eq, decide_eq_false_iff_not, Bool.not_eq_true', Bool.not_eq_false', Decidable.not_not, Int.not_lt, Int.not_le, Bool.or_eq_true, Bool.and_eq_true, Bool.or_eq_false_iff, Bool.and_eq_false_iff] at hb42
            refine QL_gq rfl rfl rfl (Yd_fld (off := 2) Try.underlying53 (by kernel_rfl) rfl) (QL_gq rfl rfl rfl (Yd_load Try.underlying3 rfl rfl (ldB hB2 rfl)) (QL_gq rfl rfl rfl (Yd_gtr rfl rfl) (QL_q rfl (Yd_pickF rfl rfl) ((QL_nil 4 rfl rfl rfl)))))
          · intro hb42
            try simp only [decide_eq_true_eq, decide_eq_false_iff_not, Bool.not_eq_true', Bool.not_eq_false', Decidable.not_not, Int.not_lt, Int.not_le, Bool.or_eq_true, Bool.and_eq_true, Bool.or_eq_false_iff, Bool.and_eq_false_iff] at hb42
            refine QL_gn rfl rfl rfl rfl (QL_gn rfl rfl rfl rfl (QL_gn rfl rfl rfl rfl (QL_q rfl (Yd_pickT rfl rfl) ((QL_nil 4 rfl rfl rfl)))))
          · skip
            refine RL_q rfl (Yd_move rfl) (?_)
            apply RL_or (dj := 47) 51 4 rfl
            · intro hb47
              try simp only [decide_eq_true_eq, decide_eq_false_iff_not, Bool.not_eq_true', Bool.not_eq_false', Decidable.not_not, Int.not_lt, Int.not_le, Bool.or_eq_true, Bool.and_eq_true, Bool.or_eq_false_iff, Bool.and_eq_false_iff] at hb47
              refine QL_gq rfl rfl rfl (Yd_fld (off := 3) Try.underlying53 (by kernel_rfl) rfl) (QL_gq rfl rfl rfl (Yd_load Try.underlying3 rfl rfl (ldB hB2 rfl)) (QL_gq rfl rfl rfl (Yd_lss rfl rfl) (QL_q rfl (Yd_pickF rfl rfl) ((QL_nil 4 rfl rfl rfl)))))
            · intro hb47
              try simp only [decide_eq_true_eq, decide_eq_false_iff_not, Bool.not_eq_true', Bool.not_eq_false', Decidable.not_not, Int.not_lt, Int.not_le, Bool.or_eq_true, Bool.and_eq_true, Bool.or_eq_false_iff, Bool.and_eq_false_iff] at hb47
              refine QL_gn rfl rfl rfl rfl (QL_gn rfl rfl rfl rfl (QL_gn rfl rfl rfl rfl (QL_q rfl (Yd_pickT rfl rfl) ((QL_nil 4 rfl rfl rfl)))))
            · skip
              refine RL_q rfl (Yd_move rfl) (?_)
              apply RL_or (dj := 52) 59 7 rfl
              · intro hb52
                try simp only [decide_eq_true_eq, decide_eq_false_iff_not, Bool.not_eq_true', Bool.not_eq_false', Decidable.not_not, Int.not_lt, Int.not_le, Bool.or_eq_true, Bool.and_eq_true, Bool.or_eq_false_iff, Bool.and_eq_false_iff] at hb52
                refine QL_gq rfl rfl rfl (Yd_fld (off := 3) Try.underlying53 (by kernel_rfl) rfl) (QL_gq rfl rfl rfl (Yd_load Try.underlying3 rfl rfl (ldB hB2 rfl)) (QL_gq rfl rfl rfl (Yd_fld (off := 2) Try.underlying53 (by kernel_rfl) rfl) (QL_gq rfl rfl rfl (Yd_load Try.underlying3 rfl rfl (ldB hB2 rfl)) (QL_gq rfl rfl rfl (Yd_sub rfl rfl (i64w (by omega) (by omega))) (QL_gq rfl rfl rfl (Yd_gtr rfl rfl) (QL_q rfl (Yd_pickF rfl rfl) ((QL_nil 7 rfl rfl rfl))))))))
              · intro hb52
                try simp only [decide_eq_true_eq, decide_eq_false_iff_not, Bool.not_eq_true', Bool.not_eq_false', Decidable.not_not, Int.not_lt, Int.not_le, Bool.or_eq_true, Bool.and_eq_true, Bool.or_eq_false_iff, Bool.and_eq_false_iff] at hb52
                refine QL_gn rfl rfl rfl rfl (QL_gn rfl rfl rfl rfl (QL_gn rfl rfl rfl rfl (QL_gn rfl rfl rfl rfl (QL_gn rfl rfl rfl rfl (QL_gn rfl rfl rfl rfl (QL_q rfl (Yd_pickT rfl rfl) ((QL_nil 7 rfl rfl rfl))))))))
              · skip
                refine RL_q rfl (Yd_move rfl) (?_)
                apply RL_or (dj := 60) 68 8 rfl
                · intro hb60
                  try simp only [decide_eq_true_eq, decide_eq_false_iff_not, Bool.not_eq_true', Bool.not_eq_false', Decidable.not_not, Int.not_lt, Int.not_le, Bool.or_eq_true, Bool.and_eq_true, Bool.or_eq_false_iff, Bool.and_eq_false_iff] at hb60
                  refine QL_gq rfl rfl rfl (Yd_fld (off := 4) Try.underlying53 (by kernel_rfl) rfl) (QL_gq rfl rfl rfl (Yd_load Try.underlying24 rfl rfl (ldB hB2 rfl)) (QL_gq rfl rfl rfl (Yd_len Try.underlying24 rfl) (QL_gq rfl rfl rfl (Yd_fld (off := 2) Try.underlying53 (by kernel_rfl) rfl) (QL_gq rfl rfl rfl (Yd_load Try.underlying3 rfl rfl (ldB hB2 rfl)) (QL_gq rfl rfl rfl (Yd_sub rfl rfl (i64w (by omega) (by omega))) (QL_gq rfl rfl rfl (Yd_gtr rfl rfl) (QL_q rfl (Yd_pickF rfl rfl) ((QL_nil 8 rfl rfl rfl)))))))))
                · intro hb60
                  try simp only [decide_eq_true_eq, decide_eq_false_iff_not, Bool.not_eq_true', Bool.not_eq_false', Decidable.not_not, Int.not_lt, Int.not_le, Bool.or_eq_true, Bool.and_eq_true, Bool.or_eq_false_iff, Bool.and_eq_false_iff] at hb60
                  refine QL_gn rfl rfl rfl rfl (QL_gn rfl rfl rfl rfl (QL_gn rfl rfl rfl rfl (QL_gn rfl rfl rfl rfl (QL_gn rfl rfl rfl rfl (QL_gn rfl rfl rfl rfl (QL_gn rfl rfl rfl rfl (QL_q rfl (Yd_pickT rfl rfl) ((QL_nil 8 rfl rfl rfl)))))))))
                · skip
                  refine RL_nil (X_then (?_))
                  refine C_cond rfl (fun hb68 => ?_) (fun hb68 => ?_)
                  · skip
                    try simp only [decide_eq_true_eq, decide_eq_false_iff_not, Bool.not_eq_true', Bool.not_eq_false', Decidable.not_not, Int.not_lt, Int.not_le, Bool.or_eq_true, Bool.and_eq_true, Bool.or_eq_false_iff, Bool.and_eq_false_iff] at hb68
                    refine C_seq (C_region (RL_q rfl (Yd_assign rfl) (RL_nil (X_then (C_ret (X_thenR (X_ret1 rfl rfl ?_)))))))
                    simp only [hb19, Bool.false_eq_true, false_iff, true_iff] at hsame
                    refine ⟨congrArg (fun n => Ending.returned (.int .i64 n)) ?_, hE⟩
                    unfold rCheck
                    repeat' split
                    all_goals first | rfl | omega
                  · skip
                    try simp only [decide_eq_true_eq, decide_eq_false_iff_not, Bool.not_eq_true', Bool.not_eq_false', Decidable.not_not, Int.not_lt, Int.not_le, Bool.or_eq_true, Bool.and_eq_true, Bool.or_eq_false_iff, Bool.and_eq_false_iff] at hb68
                    refine C_skip (X_then (C_seq (C_region (RL_q rfl (Yd_assign rfl) (RL_nil (X_then (C_ret (X_ret1 rfl rfl ?_))))))))
                    simp only [hb19, Bool.false_eq_true, false_iff, true_iff] at hsame
                    refine ⟨congrArg (fun n => Ending.returned (.int .i64 n)) ?_, hE⟩
                    unfold rCheck
                    repeat' split
                    all_goals first | rfl | omega
theorem Check_5 {lo B : Nat} (r : Rq) (pages : Int) (w : World) (hr : RqAt w lo B r) (ho : r.op = 5) :
    Calls Try.prog 38 #[.agg #[.int .i64 r.op, .int .i64 r.page, .int .i64 r.off, .int .i64 r.len, .slice r.A r.n r.c], .int .i64 pages] w fun e w' => e = .returned (.int .i64 (rCheck r pages)) ∧ Ext w w' := by
  have hE := Ext.refl w
  refine calls_of (l := [.agg #[.int .i64 r.op, .int .i64 r.page, .int .i64 r.off, .int .i64 r.len, .slice r.A r.n r.c], .int .i64 pages]) (N := 69) Try.func38 rfl rfl rfl ?_
  refine C_seq (C_region (RL_l rfl (Ld_box rfl ?_)))
  have hg_2 := hE.size
  intro W1 he1 hz1 hB2
  replace hE := Ext.trans hE he1
  replace hr := hr.ext he1
  refine RL_q rfl (Yd_assign rfl) (RL_nil (X_then (C_seq (C_seq (?_)))))
  refine C_regionD (NoB) (l := [(0, true), (1, true), (2, false), (3, true), (4, true), (5, true), (7, true), (8, true), (10, true), (6, false), (9, true), (11, false), (12, false), (13, true), (14, true)]) (by kernel_rfl) (by kernel_rfl) rfl (by kernel_rfl) (fun _ _ d _ _ h => by cases d <;> exact h) ?_
  intro W2 he2 hh2
  replace hE := Ext.trans hE he2
  replace hr := hr.ext he2
  replace hB2 := hB2.ext he2
  have hs2 := he2.size
  refine RO_q rfl rfl (Yd_fld (off := 0) Try.underlying53 (by kernel_rfl) rfl) (RO_q rfl rfl (Yd_load Try.underlying3 rfl rfl (fun W hW => (ldB hB2 rfl) W hW.ext)) (RO_l rfl rfl (Ld_call Try.func41 rfl (by kernel_rfl) rfl (Name_c _ _) ?_)))
  rintro e W3 ⟨rfl, he3⟩
  refine ⟨_, rfl, ?_⟩
  refine ⟨Kp.of_ext he3, ?_⟩
  replace hE := Ext.trans hE he3
  replace hr := hr.ext he3
  replace hB2 := hB2.ext he3
  have hs3 := he3.size
  refine RO_q rfl rfl (Yd_eqlS rfl rfl) (RO_q rfl rfl (Yd_move rfl) (?_))
  refine RO_is (d := 9) (b' := false) rfl (rName_ne (by omega) (by omega)) ?_
  refine RO_gq rfl rfl rfl rfl (Yd_loadA Try.underlying53 rfl (by kernel_rfl) rfl (fun W hW => (ldBA hB2) W hW.ext)) (RO_gq rfl rfl rfl rfl (Yd_fld (off := 0) Try.underlying53 (by kernel_rfl) rfl) (RO_gq rfl rfl rfl rfl (Yd_load Try.underlying3 rfl rfl (fun W hW => (ldB hB2 rfl) W hW.ext)) (RO_gq rfl rfl rfl rfl (Yd_loadA Try.underlying53 rfl (by kernel_rfl) rfl (fun W hW => (ldBA hB2) W hW.ext)) (RO_gl rfl rfl rfl rfl (Ld_call Try.func52 rfl (by kernel_rfl) rfl (named_c _) ?_)))))
  rintro e W4 ⟨rfl, he4⟩
  refine ⟨_, rfl, ?_⟩
  refine ⟨Kp.of_ext he4, ?_⟩
  replace hE := Ext.trans hE he4
  replace hr := hr.ext he4
  replace hB2 := hB2.ext he4
  have hs4 := he4.size
  refine RO_gq rfl rfl rfl rfl (Yd_index Try.underlying76 (by kernel_rfl) Try.underlying55 rfl rfl rfl (by omega) (by omega) (by rw [ho]; rfl)) (RO_gl rfl rfl rfl rfl (Ld_callV rfl Try.func56 rfl (by kernel_rfl) rfl (named1_c r _ hr) ?_))
  rintro e W5 ⟨rfl, he5⟩
  refine ⟨_, rfl, ?_⟩
  refine ⟨Kp.of_ext he5, ?_⟩
  replace hE := Ext.trans hE he5
  replace hr := hr.ext he5
  replace hB2 := hB2.ext he5
  have hs5 := he5.size
  refine RO_gl rfl rfl rfl rfl (Ld_call Try.func43 rfl (by kernel_rfl) rfl (Same_c r (rNamed 1 r) _ hr (rNamed_at 1 hr)) ?_)
  rintro e W6 ⟨rfl, he6⟩
  refine ⟨_, rfl, ?_⟩
  refine ⟨Kp.of_ext he6, ?_⟩
  replace hE := Ext.trans hE he6
  replace hr := hr.ext he6
  replace hB2 := hB2.ext he6
  have hs6 := he6.size
  have hnil : r.d = [] ↔ r.n = 0 := by rw [nil_iff, hr.ln]
  have hsame : rSame r (rNamed 1 r) = true ↔ (r.off = 0 ∧ r.len = 0 ∧ r.n = 0) := by simp [rSame, rNamed, hnil, and_assoc]
  refine RO_gq rfl rfl rfl rfl (Yd_not rfl) (RO_q rfl rfl (Yd_pickF rfl rfl) (RO_nil (X_then (?_))))
  refine C_cond rfl (fun hb19 => ?_) (fun hb19 => ?_)
  · skip
    try simp only [decide_eq_true_eq, decide_eq_false_iff_not, Bool.not_eq_true', Bool.not_eq_false', Decidable.not_not, Int.not_lt, Int.not_le, Bool.or_eq_true, Bool.and_eq_true, Bool.or_eq_false_iff, Bool.and_eq_false_iff] at hb19
    refine C_seq (C_region (RL_q rfl (Yd_assign rfl) (RL_nil (X_then (C_ret (X_thenR (X_ret1 rfl rfl ?_)))))))
    simp only [hb19, Bool.false_eq_true, false_iff, true_iff] at hsame
    refine ⟨congrArg (fun n => Ending.returned (.int .i64 n)) ?_, hE⟩
    unfold rCheck
    repeat' split
    all_goals first | rfl | omega
  · skip
    try simp only [decide_eq_true_eq, decide_eq_false_iff_not, Bool.not_eq_true', Bool.not_eq_false', Decidable.not_not, Int.not_lt, Int.not_le, Bool.or_eq_true, Bool.and_eq_true, Bool.or_eq_false_iff, Bool.and_eq_false_iff] at hb19
    refine C_skip (X_then (C_seq (C_seq (C_region (RL_q rfl (Yd_fld (off := 0) Try.underlying53 (by kernel_rfl) rfl) (RL_q rfl (Yd_load Try.underlying3 rfl rfl (ldB hB2 rfl)) (RL_q rfl (Yd_neq rfl rfl) (RL_q rfl (Yd_move rfl) (?_)))))))))
    apply RL_and (dj := 23) 27 4 rfl
    · intro hb23
      try simp only [decide_eq_true_eq, decide_eq_false_iff_not, Bool.not_eq_true', Bool.not_eq_false', Decidable.not_not, Int.not_lt, Int.not_le, Bool.or_eq_true, Bool.and_eq_true, Bool.or_eq_false_iff, Bool.and_eq_false_iff] at hb23
      refine QL_gq rfl rfl rfl (Yd_fld (off := 0) Try.underlying53 (by kernel_rfl) rfl) (QL_gq rfl rfl rfl (Yd_load Try.underlying3 rfl rfl (ldB hB2 rfl)) (QL_gq rfl rfl rfl (Yd_neq rfl rfl) (QL_q rfl (Yd_pickT rfl rfl) ((QL_nil 4 rfl rfl rfl)))))
    · intro hb23
      try simp only [decide_eq_true_eq, decide_eq_false_iff_not, Bool.not_eq_true', Bool.not_eq_false', Decidable.not_not, Int.not_lt, Int.not_le, Bool.or_eq_true, Bool.and_eq_true, Bool.or_eq_false_iff, Bool.and_eq_false_iff] at hb23
      refine QL_gn rfl rfl rfl rfl (QL_gn rfl rfl rfl rfl (QL_gn rfl rfl rfl rfl (QL_q rfl (Yd_pickF rfl rfl) ((QL_nil 4 rfl rfl rfl)))))
    · skip
      refine RL_q rfl (Yd_move rfl) (?_)
      apply RL_and (dj := 28) 38 10 rfl
      · intro hb28
        try simp only [decide_eq_true_eq, decide_eq_false_iff_not, Bool.not_eq_true', Bool.not_eq_false', Decidable.not_not, Int.not_lt, Int.not_le, Bool.or_eq_true, Bool.and_eq_true, Bool.or_eq_false_iff, Bool.and_eq_false_iff] at hb28
        refine QL_gq rfl rfl rfl (Yd_fld (off := 1) Try.underlying53 (by kernel_rfl) rfl) (QL_gq rfl rfl rfl (Yd_load Try.underlying3 rfl rfl (ldB hB2 rfl)) (QL_gq rfl rfl rfl (Yd_lss rfl rfl) (QL_gq rfl rfl rfl (Yd_move rfl) (?_))))
        apply QL_or (dj := 32) 37 5 rfl
        · intro hb32
          try simp only [decide_eq_true_eq, decide_eq_false_iff_not, Bool.not_eq_true', Bool.not_eq_false', Decidable.not_not, Int.not_lt, Int.not_le, Bool.or_eq_true, Bool.and_eq_true, Bool.or_eq_false_iff, Bool.and_eq_false_iff] at hb32
          refine QL_gq rfl rfl rfl (Yd_fld (off := 1) Try.underlying53 (by kernel_rfl) rfl) (QL_gq rfl rfl rfl (Yd_load Try.underlying3 rfl rfl (ldB hB2 rfl)) (QL_gq rfl rfl rfl (Yd_move rfl) (QL_gq rfl rfl rfl (Yd_geq rfl rfl) (QL_gq rfl rfl rfl (Yd_pickF rfl rfl) ((QL_nil 5 rfl rfl rfl))))))
        · intro hb32
          try simp only [decide_eq_true_eq, decide_eq_false_iff_not, Bool.not_eq_true', Bool.not_eq_false', Decidable.not_not, Int.not_lt, Int.not_le, Bool.or_eq_true, Bool.and_eq_true, Bool.or_eq_false_iff, Bool.and_eq_false_iff] at hb32
          refine QL_gn rfl rfl rfl rfl (QL_gn rfl rfl rfl rfl (QL_gn rfl rfl rfl rfl (QL_gn rfl rfl rfl rfl (QL_gq rfl rfl rfl (Yd_pickT rfl rfl) ((QL_nil 5 rfl rfl rfl))))))
        · skip
          refine QL_q rfl (Yd_pickT rfl rfl) ((QL_nil 6 rfl rfl rfl))
      · intro hb28
        try simp only [decide_eq_true_eq, decide_eq_false_iff_not, Bool.not_eq_true', Bool.not_eq_false', Decidable.not_not, Int.not_lt, Int.not_le, Bool.or_eq_true, Bool.and_eq_true, Bool.or_eq_false_iff, Bool.and_eq_false_iff] at hb28
        refine QL_gn rfl rfl rfl rfl (QL_gn rfl rfl rfl rfl (QL_gn rfl rfl rfl rfl (QL_gn rfl rfl rfl rfl (QL_gu rfl rfl rfl (QL_gu rfl rfl rfl (QL_gu rfl rfl rfl (QL_gu rfl rfl rfl (QL_gn rfl rfl rfl rfl (QL_q rfl (Yd_pickF rfl rfl) ((QL_nil 10 rfl rfl rfl)))))))))))
      · skip
        refine RL_nil (X_then (?_))
        refine C_cond rfl (fun hb38 => ?_) (fun hb38 => ?_)
        · skip
          try simp only [decide_eq_true_eq, decide_eq_false_iff_not, Bool.not_eq_true', Bool.not_eq_false', Decidable.not_not, Int.not_lt, Int.not_le, Bool.or_eq_true, Bool.and_eq_true, Bool.or_eq_false_iff, Bool.and_eq_false_iff] at hb38
          refine C_seq (C_region (RL_q rfl (Yd_assign rfl) (RL_nil (X_then (C_ret (X_thenR (X_ret1 rfl rfl ?_)))))))
          simp only [hb19, Bool.false_eq_true, false_iff, true_iff] at hsame
          refine ⟨congrArg (fun n => Ending.returned (.int .i64 n)) ?_, hE⟩
          unfold rCheck
          repeat' split
          all_goals first | rfl | omega
        · skip
          try simp only [decide_eq_true_eq, decide_eq_false_iff_not, Bool.not_eq_true', Bool.not_eq_false', Decidable.not_not, Int.not_lt, Int.not_le, Bool.or_eq_true, Bool.and_eq_true, Bool.or_eq_false_iff, Bool.and_eq_false_iff] at hb38
          refine C_skip (X_then (C_seq (C_seq (C_region (RL_q rfl (Yd_fld (off := 2) Try.underlying53 (by kernel_rfl) rfl) (RL_q rfl (Yd_load Try.underlying3 rfl rfl (ldB hB2 rfl)) (RL_q rfl (Yd_lss rfl rfl) (RL_q rfl (Yd_move rfl) (?_)))))))))
          apply RL_or (dj := 42) 46 4 rfl
          · intro hb42
            try simp only [decide_eq_true_eq, decide_eq_false_iff_not, Bool.not_eq_true', Bool.not_eq_false', Decidable.not_not, Int.not_lt, Int.not_le, Bool.or_eq_true, Bool.and_eq_true, Bool.or_eq_false_iff, Bool.and_eq_false_iff] at hb42
            refine QL_gq rfl rfl rfl (Yd_fld (off := 2) Try.underlying53 (by kernel_rfl) rfl) (QL_gq rfl rfl rfl (Yd_load Try.underlying3 rfl rfl (ldB hB2 rfl)) (QL_gq rfl rfl rfl (Yd_gtr rfl rfl) (QL_q rfl (Yd_pickF rfl rfl) ((QL_nil 4 rfl rfl rfl)))))
          · intro hb42
            try simp only [decide_eq_true_eq, decide_eq_false_iff_not, Bool.not_eq_true', Bool.not_eq_false', Decidable.not_not, Int.not_lt, Int.not_le, Bool.or_eq_true, Bool.and_eq_true, Bool.or_eq_false_iff, Bool.and_eq_false_iff] at hb42
            refine QL_gn rfl rfl rfl rfl (QL_gn rfl rfl rfl rfl (QL_gn rfl rfl rfl rfl (QL_q rfl (Yd_pickT rfl rfl) ((QL_nil 4 rfl rfl rfl)))))
          · skip
            refine RL_q rfl (Yd_move rfl) (?_)
            apply RL_or (dj := 47) 51 4 rfl
            · intro hb47
              try simp only [decide_eq_true_eq, decide_eq_false_iff_not, Bool.not_eq_true', Bool.not_eq_false', Decidable.not_not, Int.not_lt, Int.not_le, Bool.or_eq_true, Bool.and_eq_true, Bool.or_eq_false_iff, Bool.and_eq_false_iff] at hb47
              refine QL_gq rfl rfl rfl (Yd_fld (off := 3) Try.underlying53 (by kernel_rfl) rfl) (QL_gq rfl rfl rfl (Yd_load Try.underlying3 rfl rfl (ldB hB2 rfl)) (QL_gq rfl rfl rfl (Yd_lss rfl rfl) (QL_q rfl (Yd_pickF rfl rfl) ((QL_nil 4 rfl rfl rfl)))))
            · intro hb47
              try simp only [decide_eq_true_eq, decide_eq_false_iff_not, Bool.not_eq_true', Bool.not_eq_false', Decidable.not_not, Int.not_lt, Int.not_le, Bool.or_eq_true, Bool.and_eq_true, Bool.or_eq_false_iff, Bool.and_eq_false_iff] at hb47
              refine QL_gn rfl rfl rfl rfl (QL_gn rfl rfl rfl rfl (QL_gn rfl rfl rfl rfl (QL_q rfl (Yd_pickT rfl rfl) ((QL_nil 4 rfl rfl rfl)))))
            · skip
              refine RL_q rfl (Yd_move rfl) (?_)
              apply RL_or (dj := 52) 59 7 rfl
              · intro hb52
                try simp only [decide_eq_true_eq, decide_eq_false_iff_not, Bool.not_eq_true', Bool.not_eq_false', Decidable.not_not, Int.not_lt, Int.not_le, Bool.or_eq_true, Bool.and_eq_true, Bool.or_eq_false_iff, Bool.and_eq_false_iff] at hb52
                refine QL_gq rfl rfl rfl (Yd_fld (off := 3) Try.underlying53 (by kernel_rfl) rfl) (QL_gq rfl rfl rfl (Yd_load Try.underlying3 rfl rfl (ldB hB2 rfl)) (QL_gq rfl rfl rfl (Yd_fld (off := 2) Try.underlying53 (by kernel_rfl) rfl) (QL_gq rfl rfl rfl (Yd_load Try.underlying3 rfl rfl (ldB hB2 rfl)) (QL_gq rfl rfl rfl (Yd_sub rfl rfl (i64w (by omega) (by omega))) (QL_gq rfl rfl rfl (Yd_gtr rfl rfl) (QL_q rfl (Yd_pickF rfl rfl) ((QL_nil 7 rfl rfl rfl))))))))
              · intro hb52
                try simp only [decide_eq_true_eq, decide_eq_false_iff_not, Bool.not_eq_true', Bool.not_eq_false', Decidable.not_not, Int.not_lt, Int.not_le, Bool.or_eq_true, Bool.and_eq_true, Bool.or_eq_false_iff, Bool.and_eq_false_iff] at hb52
                refine QL_gn rfl rfl rfl rfl (QL_gn rfl rfl rfl rfl (QL_gn rfl rfl rfl rfl (QL_gn rfl rfl rfl rfl (QL_gn rfl rfl rfl rfl (QL_gn rfl rfl rfl rfl (QL_q rfl (Yd_pickT rfl rfl) ((QL_nil 7 rfl rfl rfl))))))))
              · skip
                refine RL_q rfl (Yd_move rfl) (?_)
                apply RL_or (dj := 60) 68 8 rfl
                · intro hb60
                  try simp only [decide_eq_true_eq, decide_eq_false_iff_not, Bool.not_eq_true', Bool.not_eq_false', Decidable.not_not, Int.not_lt, Int.not_le, Bool.or_eq_true, Bool.and_eq_true, Bool.or_eq_false_iff, Bool.and_eq_false_iff] at hb60
                  refine QL_gq rfl rfl rfl (Yd_fld (off := 4) Try.underlying53 (by kernel_rfl) rfl) (QL_gq rfl rfl rfl (Yd_load Try.underlying24 rfl rfl (ldB hB2 rfl)) (QL_gq rfl rfl rfl (Yd_len Try.underlying24 rfl) (QL_gq rfl rfl rfl (Yd_fld (off := 2) Try.underlying53 (by kernel_rfl) rfl) (QL_gq rfl rfl rfl (Yd_load Try.underlying3 rfl rfl (ldB hB2 rfl)) (QL_gq rfl rfl rfl (Yd_sub rfl rfl (i64w (by omega) (by omega))) (QL_gq rfl rfl rfl (Yd_gtr rfl rfl) (QL_q rfl (Yd_pickF rfl rfl) ((QL_nil 8 rfl rfl rfl)))))))))
                · intro hb60
                  try simp only [decide_eq_true_eq, decide_eq_false_iff_not, Bool.not_eq_true', Bool.not_eq_false', Decidable.not_not, Int.not_lt, Int.not_le, Bool.or_eq_true, Bool.and_eq_true, Bool.or_eq_false_iff, Bool.and_eq_false_iff] at hb60
                  refine QL_gn rfl rfl rfl rfl (QL_gn rfl rfl rfl rfl (QL_gn rfl rfl rfl rfl (QL_gn rfl rfl rfl rfl (QL_gn rfl rfl rfl rfl (QL_gn rfl rfl rfl rfl (QL_gn rfl rfl rfl rfl (QL_q rfl (Yd_pickT rfl rfl) ((QL_nil 8 rfl rfl rfl)))))))))
                · skip
                  refine RL_nil (X_then (?_))
                  refine C_cond rfl (fun hb68 => ?_) (fun hb68 => ?_)
                  · skip
                    try simp only [decide_eq_true_eq, decide_eq_false_iff_not, Bool.not_eq_true', Bool.not_eq_false', Decidable.not_not, Int.not_lt, Int.not_le, Bool.or_eq_true, Bool.and_eq_true, Bool.or_eq_false_iff, Bool.and_eq_false_iff] at hb68
                    refine C_seq (C_region (RL_q rfl (Yd_assign rfl) (RL_nil (X_then (C_ret (X_thenR (X_ret1 rfl rfl ?_)))))))
                    simp only [hb19, Bool.false_eq_true, false_iff, true_iff] at hsame
                    refine ⟨congrArg (fun n => Ending.returned (.int .i64 n)) ?_, hE⟩
                    unfold rCheck
                    repeat' split
                    all_goals first | rfl | omega
                  · skip
                    try simp only [decide_eq_true_eq, decide_eq_false_iff_not, Bool.not_eq_true', Bool.not_eq_false', Decidable.not_not, Int.not_lt, Int.not_le, Bool.or_eq_true, Bool.and_eq_true, Bool.or_eq_false_iff, Bool.and_eq_false_iff] at hb68
                    refine C_skip (X_then (C_seq (C_region (RL_q rfl (Yd_assign rfl) (RL_nil (X_then (C_ret (X_ret1 rfl rfl ?_))))))))
                    simp only [hb19, Bool.false_eq_true, false_iff, true_iff] at hsame
                    refine ⟨congrArg (fun n => Ending.returned (.int .i64 n)) ?_, hE⟩
                    unfold rCheck
                    repeat' split
                    all_goals first | rfl | omega
theorem Check_6 {lo B : Nat} (r : Rq) (pages : Int) (w : World) (hr : RqAt w lo B r) (ho : r.op = 6) :
    Calls Try.prog 38 #[.agg #[.int .i64 r.op, .int .i64 r.page, .int .i64 r.off, .int .i64 r.len, .slice r.A r.n r.c], .int .i64 pages] w fun e w' => e = .returned (.int .i64 (rCheck r pages)) ∧ Ext w w' := by
  have hE := Ext.refl w
  refine calls_of (l := [.agg #[.int .i64 r.op, .int .i64 r.page, .int .i64 r.off, .int .i64 r.len, .slice r.A r.n r.c], .int .i64 pages]) (N := 69) Try.func38 rfl rfl rfl ?_
  refine C_seq (C_region (RL_l rfl (Ld_box rfl ?_)))
  have hg_2 := hE.size
  intro W1 he1 hz1 hB2
  replace hE := Ext.trans hE he1
  replace hr := hr.ext he1
  refine RL_q rfl (Yd_assign rfl) (RL_nil (X_then (C_seq (C_seq (?_)))))
  refine C_regionD (NoB) (l := [(0, true), (1, true), (2, false), (3, true), (4, true), (5, true), (7, true), (8, true), (10, true), (6, false), (9, true), (11, false), (12, false), (13, true), (14, true)]) (by kernel_rfl) (by kernel_rfl) rfl (by kernel_rfl) (fun _ _ d _ _ h => by cases d <;> exact h) ?_
  intro W2 he2 hh2
  replace hE := Ext.trans hE he2
  replace hr := hr.ext he2
  replace hB2 := hB2.ext he2
  have hs2 := he2.size
  refine RO_q rfl rfl (Yd_fld (off := 0) Try.underlying53 (by kernel_rfl) rfl) (RO_q rfl rfl (Yd_load Try.underlying3 rfl rfl (fun W hW => (ldB hB2 rfl) W hW.ext)) (RO_l rfl rfl (Ld_call Try.func41 rfl (by kernel_rfl) rfl (Name_c _ _) ?_)))
  rintro e W3 ⟨rfl, he3⟩
  refine ⟨_, rfl, ?_⟩
  refine ⟨Kp.of_ext he3, ?_⟩
  replace hE := Ext.trans hE he3
  replace hr := hr.ext he3
  replace hB2 := hB2.ext he3
  have hs3 := he3.size
  refine RO_q rfl rfl (Yd_eqlS rfl rfl) (RO_q rfl rfl (Yd_move rfl) (?_))
  refine RO_is (d := 9) (b' := false) rfl (rName_ne (by omega) (by omega)) ?_
  refine RO_gq rfl rfl rfl rfl (Yd_loadA Try.underlying53 rfl (by kernel_rfl) rfl (fun W hW => (ldBA hB2) W hW.ext)) (RO_gq rfl rfl rfl rfl (Yd_fld (off := 0) Try.underlying53 (by kernel_rfl) rfl) (RO_gq rfl rfl rfl rfl (Yd_load Try.underlying3 rfl rfl (fun W hW => (ldB hB2 rfl) W hW.ext)) (RO_gq rfl rfl rfl rfl (Yd_loadA Try.underlying53 rfl (by kernel_rfl) rfl (fun W hW => (ldBA hB2) W hW.ext)) (RO_gl rfl rfl rfl rfl (Ld_call Try.func52 rfl (by kernel_rfl) rfl (named_c _) ?_)))))
  rintro e W4 ⟨rfl, he4⟩
  refine ⟨_, rfl, ?_⟩
  refine ⟨Kp.of_ext he4, ?_⟩
  replace hE := Ext.trans hE he4
  replace hr := hr.ext he4
  replace hB2 := hB2.ext he4
  have hs4 := he4.size
  refine RO_gq rfl rfl rfl rfl (Yd_index Try.underlying76 (by kernel_rfl) Try.underlying55 rfl rfl rfl (by omega) (by omega) (by rw [ho]; rfl)) (RO_gl rfl rfl rfl rfl (Ld_callV rfl Try.func57 rfl (by kernel_rfl) rfl (named2_c r _ hr) ?_))
  rintro e W5 ⟨rfl, he5⟩
  refine ⟨_, rfl, ?_⟩
  refine ⟨Kp.of_ext he5, ?_⟩
  replace hE := Ext.trans hE he5
  replace hr := hr.ext he5
  replace hB2 := hB2.ext he5
  have hs5 := he5.size
  refine RO_gl rfl rfl rfl rfl (Ld_call Try.func43 rfl (by kernel_rfl) rfl (Same_c r (rNamed 2 r) _ hr (rNamed_at 2 hr)) ?_)
  rintro e W6 ⟨rfl, he6⟩
  refine ⟨_, rfl, ?_⟩
  refine ⟨Kp.of_ext he6, ?_⟩
  replace hE := Ext.trans hE he6
  replace hr := hr.ext he6
  replace hB2 := hB2.ext he6
  have hs6 := he6.size
  have hnil : r.d = [] ↔ r.n = 0 := by rw [nil_iff, hr.ln]
  have hsame : rSame r (rNamed 2 r) = true ↔ (r.page = 0 ∧ r.off = 0 ∧ r.len = 0 ∧ r.n = 0) := by simp [rSame, rNamed, hnil, and_assoc]
  refine RO_gq rfl rfl rfl rfl (Yd_not rfl) (RO_q rfl rfl (Yd_pickF rfl rfl) (RO_nil (X_then (?_))))
  refine C_cond rfl (fun hb19 => ?_) (fun hb19 => ?_)
  · skip
    try simp only [decide_eq_true_eq, decide_eq_false_iff_not, Bool.not_eq_true', Bool.not_eq_false', Decidable.not_not, Int.not_lt, Int.not_le, Bool.or_eq_true, Bool.and_eq_true, Bool.or_eq_false_iff, Bool.and_eq_false_iff] at hb19
    refine C_seq (C_region (RL_q rfl (Yd_assign rfl) (RL_nil (X_then (C_ret (X_thenR (X_ret1 rfl rfl ?_)))))))
    simp only [hb19, Bool.false_eq_true, false_iff, true_iff] at hsame
    refine ⟨congrArg (fun n => Ending.returned (.int .i64 n)) ?_, hE⟩
    unfold rCheck
    repeat' split
    all_goals first | rfl | omega
  · skip
    try simp only [decide_eq_true_eq, decide_eq_false_iff_not, Bool.not_eq_true', Bool.not_eq_false', Decidable.not_not, Int.not_lt, Int.not_le, Bool.or_eq_true, Bool.and_eq_true, Bool.or_eq_false_iff, Bool.and_eq_false_iff] at hb19
    refine C_skip (X_then (C_seq (C_seq (C_region (RL_q rfl (Yd_fld (off := 0) Try.underlying53 (by kernel_rfl) rfl) (RL_q rfl (Yd_load Try.underlying3 rfl rfl (ldB hB2 rfl)) (RL_q rfl (Yd_neq rfl rfl) (RL_q rfl (Yd_move rfl) (?_)))))))))
    apply RL_and (dj := 23) 27 4 rfl
    · intro hb23
      try simp only [decide_eq_true_eq, decide_eq_false_iff_not, Bool.not_eq_true', Bool.not_eq_false', Decidable.not_not, Int.not_lt, Int.not_le, Bool.or_eq_true, Bool.and_eq_true, Bool.or_eq_false_iff, Bool.and_eq_false_iff] at hb23
      refine QL_gq rfl rfl rfl (Yd_fld (off := 0) Try.underlying53 (by kernel_rfl) rfl) (QL_gq rfl rfl rfl (Yd_load Try.underlying3 rfl rfl (ldB hB2 rfl)) (QL_gq rfl rfl rfl (Yd_neq rfl rfl) (QL_q rfl (Yd_pickT rfl rfl) ((QL_nil 4 rfl rfl rfl)))))
    · intro hb23
      try simp only [decide_eq_true_eq, decide_eq_false_iff_not, Bool.not_eq_true', Bool.not_eq_false', Decidable.not_not, Int.not_lt, Int.not_le, Bool.or_eq_true, Bool.and_eq_true, Bool.or_eq_false_iff, Bool.and_eq_false_iff] at hb23
      refine QL_gn rfl rfl rfl rfl (QL_gn rfl rfl rfl rfl (QL_gn rfl rfl rfl rfl (QL_q rfl (Yd_pickF rfl rfl) ((QL_nil 4 rfl rfl rfl)))))
    · skip
      refine RL_q rfl (Yd_move rfl) (?_)
      apply RL_and (dj := 28) 38 10 rfl
      · intro hb28
        try simp only [decide_eq_true_eq, decide_eq_false_iff_not, Bool.not_eq_true', Bool.not_eq_false', Decidable.not_not, Int.not_lt, Int.not_le, Bool.or_eq_true, Bool.and_eq_true, Bool.or_eq_false_iff, Bool.and_eq_false_iff] at hb28
        refine QL_gq rfl rfl rfl (Yd_fld (off := 1) Try.underlying53 (by kernel_rfl) rfl) (QL_gq rfl rfl rfl (Yd_load Try.underlying3 rfl rfl (ldB hB2 rfl)) (QL_gq rfl rfl rfl (Yd_lss rfl rfl) (QL_gq rfl rfl rfl (Yd_move rfl) (?_))))
        apply QL_or (dj := 32) 37 5 rfl
        · intro hb32
          try simp only [decide_eq_true_eq, decide_eq_false_iff_not, Bool.not_eq_true', Bool.not_eq_false', Decidable.not_not, Int.not_lt, Int.not_le, Bool.or_eq_true, Bool.and_eq_true, Bool.or_eq_false_iff, Bool.and_eq_false_iff] at hb32
          refine QL_gq rfl rfl rfl (Yd_fld (off := 1) Try.underlying53 (by kernel_rfl) rfl) (QL_gq rfl rfl rfl (Yd_load Try.underlying3 rfl rfl (ldB hB2 rfl)) (QL_gq rfl rfl rfl (Yd_move rfl) (QL_gq rfl rfl rfl (Yd_geq rfl rfl) (QL_gq rfl rfl rfl (Yd_pickF rfl rfl) ((QL_nil 5 rfl rfl rfl))))))
        · intro hb32
          try simp only [decide_eq_true_eq, decide_eq_false_iff_not, Bool.not_eq_true', Bool.not_eq_false', Decidable.not_not, Int.not_lt, Int.not_le, Bool.or_eq_true, Bool.and_eq_true, Bool.or_eq_false_iff, Bool.and_eq_false_iff] at hb32
          refine QL_gn rfl rfl rfl rfl (QL_gn rfl rfl rfl rfl (QL_gn rfl rfl rfl rfl (QL_gn rfl rfl rfl rfl (QL_gq rfl rfl rfl (Yd_pickT rfl rfl) ((QL_nil 5 rfl rfl rfl))))))
        · skip
          refine QL_q rfl (Yd_pickT rfl rfl) ((QL_nil 6 rfl rfl rfl))
      · intro hb28
        try simp only [decide_eq_true_eq, decide_eq_false_iff_not, Bool.not_eq_true', Bool.not_eq_false', Decidable.not_not, Int.not_lt, Int.not_le, Bool.or_eq_true, Bool.and_eq_true, Bool.or_eq_false_iff, Bool.and_eq_false_iff] at hb28
        refine QL_gn rfl rfl rfl rfl (QL_gn rfl rfl rfl rfl (QL_gn rfl rfl rfl rfl (QL_gn rfl rfl rfl rfl (QL_gu rfl rfl rfl (QL_gu rfl rfl rfl (QL_gu rfl rfl rfl (QL_gu rfl rfl rfl (QL_gn rfl rfl rfl rfl (QL_q rfl (Yd_pickF rfl rfl) ((QL_nil 10 rfl rfl rfl)))))))))))
      · skip
        refine RL_nil (X_then (?_))
        refine C_cond rfl (fun hb38 => ?_) (fun hb38 => ?_)
        · skip
          try simp only [decide_eq_true_eq, decide_eq_false_iff_not, Bool.not_eq_true', Bool.not_eq_false', Decidable.not_not, Int.not_lt, Int.not_le, Bool.or_eq_true, Bool.and_eq_true, Bool.or_eq_false_iff, Bool.and_eq_false_iff] at hb38
          refine C_seq (C_region (RL_q rfl (Yd_assign rfl) (RL_nil (X_then (C_ret (X_thenR (X_ret1 rfl rfl ?_)))))))
          simp only [hb19, Bool.false_eq_true, false_iff, true_iff] at hsame
          refine ⟨congrArg (fun n => Ending.returned (.int .i64 n)) ?_, hE⟩
          unfold rCheck
          repeat' split
          all_goals first | rfl | omega
        · skip
          try simp only [decide_eq_true_eq, decide_eq_false_iff_not, Bool.not_eq_true', Bool.not_eq_false', Decidable.not_not, Int.not_lt, Int.not_le, Bool.or_eq_true, Bool.and_eq_true, Bool.or_eq_false_iff, Bool.and_eq_false_iff] at hb38
          refine C_skip (X_then (C_seq (C_seq (C_region (RL_q rfl (Yd_fld (off := 2) Try.underlying53 (by kernel_rfl) rfl) (RL_q rfl (Yd_load Try.underlying3 rfl rfl (ldB hB2 rfl)) (RL_q rfl (Yd_lss rfl rfl) (RL_q rfl (Yd_move rfl) (?_)))))))))
          apply RL_or (dj := 42) 46 4 rfl
          · intro hb42
            try simp only [decide_eq_true_eq, decide_eq_false_iff_not, Bool.not_eq_true', Bool.not_eq_false', Decidable.not_not, Int.not_lt, Int.not_le, Bool.or_eq_true, Bool.and_eq_true, Bool.or_eq_false_iff, Bool.and_eq_false_iff] at hb42
            refine QL_gq rfl rfl rfl (Yd_fld (off := 2) Try.underlying53 (by kernel_rfl) rfl) (QL_gq rfl rfl rfl (Yd_load Try.underlying3 rfl rfl (ldB hB2 rfl)) (QL_gq rfl rfl rfl (Yd_gtr rfl rfl) (QL_q rfl (Yd_pickF rfl rfl) ((QL_nil 4 rfl rfl rfl)))))
          · intro hb42
            try simp only [decide_eq_true_eq, decide_eq_false_iff_not, Bool.not_eq_true', Bool.not_eq_false', Decidable.not_not, Int.not_lt, Int.not_le, Bool.or_eq_true, Bool.and_eq_true, Bool.or_eq_false_iff, Bool.and_eq_false_iff] at hb42
            refine QL_gn rfl rfl rfl rfl (QL_gn rfl rfl rfl rfl (QL_gn rfl rfl rfl rfl (QL_q rfl (Yd_pickT rfl rfl) ((QL_nil 4 rfl rfl rfl)))))
          · skip
            refine RL_q rfl (Yd_move rfl) (?_)
            apply RL_or (dj := 47) 51 4 rfl
            · intro hb47
              try simp only [decide_eq_true_eq, decide_eq_false_iff_not, Bool.not_eq_true', Bool.not_eq_false', Decidable.not_not, Int.not_lt, Int.not_le, Bool.or_eq_true, Bool.and_eq_true, Bool.or_eq_false_iff, Bool.and_eq_false_iff] at hb47
              refine QL_gq rfl rfl rfl (Yd_fld (off := 3) Try.underlying53 (by kernel_rfl) rfl) (QL_gq rfl rfl rfl (Yd_load Try.underlying3 rfl rfl (ldB hB2 rfl)) (QL_gq rfl rfl rfl (Yd_lss rfl rfl) (QL_q rfl (Yd_pickF rfl rfl) ((QL_nil 4 rfl rfl rfl)))))
            · intro hb47
              try simp only [decide_eq_true_eq, decide_eq_false_iff_not, Bool.not_eq_true', Bool.not_eq_false', Decidable.not_not, Int.not_lt, Int.not_le, Bool.or_eq_true, Bool.and_eq_true, Bool.or_eq_false_iff, Bool.and_eq_false_iff] at hb47
              refine QL_gn rfl rfl rfl rfl (QL_gn rfl rfl rfl rfl (QL_gn rfl rfl rfl rfl (QL_q rfl (Yd_pickT rfl rfl) ((QL_nil 4 rfl rfl rfl)))))
            · skip
              refine RL_q rfl (Yd_move rfl) (?_)
              apply RL_or (dj := 52) 59 7 rfl
              · intro hb52
                try simp only [decide_eq_true_eq, decide_eq_false_iff_not, Bool.not_eq_true', Bool.not_eq_false', Decidable.not_not, Int.not_lt, Int.not_le, Bool.or_eq_true, Bool.and_eq_true, Bool.or_eq_false_iff, Bool.and_eq_false_iff] at hb52
                refine QL_gq rfl rfl rfl (Yd_fld (off := 3) Try.underlying53 (by kernel_rfl) rfl) (QL_gq rfl rfl rfl (Yd_load Try.underlying3 rfl rfl (ldB hB2 rfl)) (QL_gq rfl rfl rfl (Yd_fld (off := 2) Try.underlying53 (by kernel_rfl) rfl) (QL_gq rfl rfl rfl (Yd_load Try.underlying3 rfl rfl (ldB hB2 rfl)) (QL_gq rfl rfl rfl (Yd_sub rfl rfl (i64w (by omega) (by omega))) (QL_gq rfl rfl rfl (Yd_gtr rfl rfl) (QL_q rfl (Yd_pickF rfl rfl) ((QL_nil 7 rfl rfl rfl))))))))
              · intro hb52
                try simp only [decide_eq_true_eq, decide_eq_false_iff_not, Bool.not_eq_true', Bool.not_eq_false', Decidable.not_not, Int.not_lt, Int.not_le, Bool.or_eq_true, Bool.and_eq_true, Bool.or_eq_false_iff, Bool.and_eq_false_iff] at hb52
                refine QL_gn rfl rfl rfl rfl (QL_gn rfl rfl rfl rfl (QL_gn rfl rfl rfl rfl (QL_gn rfl rfl rfl rfl (QL_gn rfl rfl rfl rfl (QL_gn rfl rfl rfl rfl (QL_q rfl (Yd_pickT rfl rfl) ((QL_nil 7 rfl rfl rfl))))))))
              · skip
                refine RL_q rfl (Yd_move rfl) (?_)
                apply RL_or (dj := 60) 68 8 rfl
                · intro hb60
                  try simp only [decide_eq_true_eq, decide_eq_false_iff_not, Bool.not_eq_true', Bool.not_eq_false', Decidable.not_not, Int.not_lt, Int.not_le, Bool.or_eq_true, Bool.and_eq_true, Bool.or_eq_false_iff, Bool.and_eq_false_iff] at hb60
                  refine QL_gq rfl rfl rfl (Yd_fld (off := 4) Try.underlying53 (by kernel_rfl) rfl) (QL_gq rfl rfl rfl (Yd_load Try.underlying24 rfl rfl (ldB hB2 rfl)) (QL_gq rfl rfl rfl (Yd_len Try.underlying24 rfl) (QL_gq rfl rfl rfl (Yd_fld (off := 2) Try.underlying53 (by kernel_rfl) rfl) (QL_gq rfl rfl rfl (Yd_load Try.underlying3 rfl rfl (ldB hB2 rfl)) (QL_gq rfl rfl rfl (Yd_sub rfl rfl (i64w (by omega) (by omega))) (QL_gq rfl rfl rfl (Yd_gtr rfl rfl) (QL_q rfl (Yd_pickF rfl rfl) ((QL_nil 8 rfl rfl rfl)))))))))
                · intro hb60
                  try simp only [decide_eq_true_eq, decide_eq_false_iff_not, Bool.not_eq_true', Bool.not_eq_false', Decidable.not_not, Int.not_lt, Int.not_le, Bool.or_eq_true, Bool.and_eq_true, Bool.or_eq_false_iff, Bool.and_eq_false_iff] at hb60
                  refine QL_gn rfl rfl rfl rfl (QL_gn rfl rfl rfl rfl (QL_gn rfl rfl rfl rfl (QL_gn rfl rfl rfl rfl (QL_gn rfl rfl rfl rfl (QL_gn rfl rfl rfl rfl (QL_gn rfl rfl rfl rfl (QL_q rfl (Yd_pickT rfl rfl) ((QL_nil 8 rfl rfl rfl)))))))))
                · skip
                  refine RL_nil (X_then (?_))
                  refine C_cond rfl (fun hb68 => ?_) (fun hb68 => ?_)
                  · skip
                    try simp only [decide_eq_true_eq, decide_eq_false_iff_not, Bool.not_eq_true', Bool.not_eq_false', Decidable.not_not, Int.not_lt, Int.not_le, Bool.or_eq_true, Bool.and_eq_true, Bool.or_eq_false_iff, Bool.and_eq_false_iff] at hb68
                    refine C_seq (C_region (RL_q rfl (Yd_assign rfl) (RL_nil (X_then (C_ret (X_thenR (X_ret1 rfl rfl ?_)))))))
                    simp only [hb19, Bool.false_eq_true, false_iff, true_iff] at hsame
                    refine ⟨congrArg (fun n => Ending.returned (.int .i64 n)) ?_, hE⟩
                    unfold rCheck
                    repeat' split
                    all_goals first | rfl | omega
                  · skip
                    try simp only [decide_eq_true_eq, decide_eq_false_iff_not, Bool.not_eq_true', Bool.not_eq_false', Decidable.not_not, Int.not_lt, Int.not_le, Bool.or_eq_true, Bool.and_eq_true, Bool.or_eq_false_iff, Bool.and_eq_false_iff] at hb68
                    refine C_skip (X_then (C_seq (C_region (RL_q rfl (Yd_assign rfl) (RL_nil (X_then (C_ret (X_ret1 rfl rfl ?_))))))))
                    simp only [hb19, Bool.false_eq_true, false_iff, true_iff] at hsame
                    refine ⟨congrArg (fun n => Ending.returned (.int .i64 n)) ?_, hE⟩
                    unfold rCheck
                    repeat' split
                    all_goals first | rfl | omega
theorem Check_7 {lo B : Nat} (r : Rq) (pages : Int) (w : World) (hr : RqAt w lo B r) (ho : r.op = 7) :
    Calls Try.prog 38 #[.agg #[.int .i64 r.op, .int .i64 r.page, .int .i64 r.off, .int .i64 r.len, .slice r.A r.n r.c], .int .i64 pages] w fun e w' => e = .returned (.int .i64 (rCheck r pages)) ∧ Ext w w' := by
  have hE := Ext.refl w
  refine calls_of (l := [.agg #[.int .i64 r.op, .int .i64 r.page, .int .i64 r.off, .int .i64 r.len, .slice r.A r.n r.c], .int .i64 pages]) (N := 69) Try.func38 rfl rfl rfl ?_
  refine C_seq (C_region (RL_l rfl (Ld_box rfl ?_)))
  have hg_2 := hE.size
  intro W1 he1 hz1 hB2
  replace hE := Ext.trans hE he1
  replace hr := hr.ext he1
  refine RL_q rfl (Yd_assign rfl) (RL_nil (X_then (C_seq (C_seq (?_)))))
  refine C_regionD (NoB) (l := [(0, true), (1, true), (2, false), (3, true), (4, true), (5, true), (7, true), (8, true), (10, true), (6, false), (9, true), (11, false), (12, false), (13, true), (14, true)]) (by kernel_rfl) (by kernel_rfl) rfl (by kernel_rfl) (fun _ _ d _ _ h => by cases d <;> exact h) ?_
  intro W2 he2 hh2
  replace hE := Ext.trans hE he2
  replace hr := hr.ext he2
  replace hB2 := hB2.ext he2
  have hs2 := he2.size
  refine RO_q rfl rfl (Yd_fld (off := 0) Try.underlying53 (by kernel_rfl) rfl) (RO_q rfl rfl (Yd_load Try.underlying3 rfl rfl (fun W hW => (ldB hB2 rfl) W hW.ext)) (RO_l rfl rfl (Ld_call Try.func41 rfl (by kernel_rfl) rfl (Name_c _ _) ?_)))
  rintro e W3 ⟨rfl, he3⟩
  refine ⟨_, rfl, ?_⟩
  refine ⟨Kp.of_ext he3, ?_⟩
  replace hE := Ext.trans hE he3
  replace hr := hr.ext he3
  replace hB2 := hB2.ext he3
  have hs3 := he3.size
  refine RO_q rfl rfl (Yd_eqlS rfl rfl) (RO_q rfl rfl (Yd_move rfl) (?_))
  refine RO_is (d := 9) (b' := false) rfl (rName_ne (by omega) (by omega)) ?_
  refine RO_gq rfl rfl rfl rfl (Yd_loadA Try.underlying53 rfl (by kernel_rfl) rfl (fun W hW => (ldBA hB2) W hW.ext)) (RO_gq rfl rfl rfl rfl (Yd_fld (off := 0) Try.underlying53 (by kernel_rfl) rfl) (RO_gq rfl rfl rfl rfl (Yd_load Try.underlying3 rfl rfl (fun W hW => (ldB hB2 rfl) W hW.ext)) (RO_gq rfl rfl rfl rfl (Yd_loadA Try.underlying53 rfl (by kernel_rfl) rfl (fun W hW => (ldBA hB2) W hW.ext)) (RO_gl rfl rfl rfl rfl (Ld_call Try.func52 rfl (by kernel_rfl) rfl (named_c _) ?_)))))
  rintro e W4 ⟨rfl, he4⟩
  refine ⟨_, rfl, ?_⟩
  refine ⟨Kp.of_ext he4, ?_⟩
  replace hE := Ext.trans hE he4
  replace hr := hr.ext he4
  replace hB2 := hB2.ext he4
  have hs4 := he4.size
  refine RO_gq rfl rfl rfl rfl (Yd_index Try.underlying76 (by kernel_rfl) Try.underlying55 rfl rfl rfl (by omega) (by omega) (by rw [ho]; rfl)) (RO_gl rfl rfl rfl rfl (Ld_callV rfl Try.func56 rfl (by kernel_rfl) rfl (named1_c r _ hr) ?_))
  rintro e W5 ⟨rfl, he5⟩
  refine ⟨_, rfl, ?_⟩
  refine ⟨Kp.of_ext he5, ?_⟩
  replace hE := Ext.trans hE he5
  replace hr := hr.ext he5
  replace hB2 := hB2.ext he5
  have hs5 := he5.size
  refine RO_gl rfl rfl rfl rfl (Ld_call Try.func43 rfl (by kernel_rfl) rfl (Same_c r (rNamed 1 r) _ hr (rNamed_at 1 hr)) ?_)
  rintro e W6 ⟨rfl, he6⟩
  refine ⟨_, rfl, ?_⟩
  refine ⟨Kp.of_ext he6, ?_⟩
  replace hE := Ext.trans hE he6
  replace hr := hr.ext he6
  replace hB2 := hB2.ext he6
  have hs6 := he6.size
  have hnil : r.d = [] ↔ r.n = 0 := by rw [nil_iff, hr.ln]
  have hsame : rSame r (rNamed 1 r) = true ↔ (r.off = 0 ∧ r.len = 0 ∧ r.n = 0) := by simp [rSame, rNamed, hnil, and_assoc]
  refine RO_gq rfl rfl rfl rfl (Yd_not rfl) (RO_q rfl rfl (Yd_pickF rfl rfl) (RO_nil (X_then (?_))))
  refine C_cond rfl (fun hb19 => ?_) (fun hb19 => ?_)
  · skip
    try simp only [decide_eq_true_eq, decide_eq_false_iff_not, Bool.not_eq_true', Bool.not_eq_false', Decidable.not_not, Int.not_lt, Int.not_le, Bool.or_eq_true, Bool.and_eq_true, Bool.or_eq_false_iff, Bool.and_eq_false_iff] at hb19
    refine C_seq (C_region (RL_q rfl (Yd_assign rfl) (RL_nil (X_then (C_ret (X_thenR (X_ret1 rfl rfl ?_)))))))
    simp only [hb19, Bool.false_eq_true, false_iff, true_iff] at hsame
    refine ⟨congrArg (fun n => Ending.returned (.int .i64 n)) ?_, hE⟩
    unfold rCheck
    repeat' split
    all_goals first | rfl | omega
  · skip
    try simp only [decide_eq_true_eq, decide_eq_false_iff_not, Bool.not_eq_true', Bool.not_eq_false', Decidable.not_not, Int.not_lt, Int.not_le, Bool.or_eq_true, Bool.and_eq_true, Bool.or_eq_false_iff, Bool.and_eq_false_iff] at hb19
    refine C_skip (X_then (C_seq (C_seq (C_region (RL_q rfl (Yd_fld (off := 0) Try.underlying53 (by kernel_rfl) rfl) (RL_q rfl (Yd_load Try.underlying3 rfl rfl (ldB hB2 rfl)) (RL_q rfl (Yd_neq rfl rfl) (RL_q rfl (Yd_move rfl) (?_)))))))))
    apply RL_and (dj := 23) 27 4 rfl
    · intro hb23
      try simp only [decide_eq_true_eq, decide_eq_false_iff_not, Bool.not_eq_true', Bool.not_eq_false', Decidable.not_not, Int.not_lt, Int.not_le, Bool.or_eq_true, Bool.and_eq_true, Bool.or_eq_false_iff, Bool.and_eq_false_iff] at hb23
      refine QL_gq rfl rfl rfl (Yd_fld (off := 0) Try.underlying53 (by kernel_rfl) rfl) (QL_gq rfl rfl rfl (Yd_load Try.underlying3 rfl rfl (ldB hB2 rfl)) (QL_gq rfl rfl rfl (Yd_neq rfl rfl) (QL_q rfl (Yd_pickT rfl rfl) ((QL_nil 4 rfl rfl rfl)))))
    · intro hb23
      try simp only [decide_eq_true_eq, decide_eq_false_iff_not, Bool.not_eq_true', Bool.not_eq_false', Decidable.not_not, Int.not_lt, Int.not_le, Bool.or_eq_true, Bool.and_eq_true, Bool.or_eq_false_iff, Bool.and_eq_false_iff] at hb23
      refine QL_gn rfl rfl rfl rfl (QL_gn rfl rfl rfl rfl (QL_gn rfl rfl rfl rfl (QL_q rfl (Yd_pickF rfl rfl) ((QL_nil 4 rfl rfl rfl)))))
    · skip
      refine RL_q rfl (Yd_move rfl) (?_)
      apply RL_and (dj := 28) 38 10 rfl
      · intro hb28
        try simp only [decide_eq_true_eq, decide_eq_false_iff_not, Bool.not_eq_true', Bool.not_eq_false', Decidable.not_not, Int.not_lt, Int.not_le, Bool.or_eq_true, Bool.and_eq_true, Bool.or_eq_false_iff, Bool.and_eq_false_iff] at hb28
        refine QL_gq rfl rfl rfl (Yd_fld (off := 1) Try.underlying53 (by kernel_rfl) rfl) (QL_gq rfl rfl rfl (Yd_load Try.underlying3 rfl rfl (ldB hB2 rfl)) (QL_gq rfl rfl rfl (Yd_lss rfl rfl) (QL_gq rfl rfl rfl (Yd_move rfl) (?_))))
        apply QL_or (dj := 32) 37 5 rfl
        · intro hb32
          try simp only [decide_eq_true_eq, decide_eq_false_iff_not, Bool.not_eq_true', Bool.not_eq_false', Decidable.not_not, Int.not_lt, Int.not_le, Bool.or_eq_true, Bool.and_eq_true, Bool.or_eq_false_iff, Bool.and_eq_false_iff] at hb32
          refine QL_gq rfl rfl rfl (Yd_fld (off := 1) Try.underlying53 (by kernel_rfl) rfl) (QL_gq rfl rfl rfl (Yd_load Try.underlying3 rfl rfl (ldB hB2 rfl)) (QL_gq rfl rfl rfl (Yd_move rfl) (QL_gq rfl rfl rfl (Yd_geq rfl rfl) (QL_gq rfl rfl rfl (Yd_pickF rfl rfl) ((QL_nil 5 rfl rfl rfl))))))
        · intro hb32
          try simp only [decide_eq_true_eq, decide_eq_false_iff_not, Bool.not_eq_true', Bool.not_eq_false', Decidable.not_not, Int.not_lt, Int.not_le, Bool.or_eq_true, Bool.and_eq_true, Bool.or_eq_false_iff, Bool.and_eq_false_iff] at hb32
          refine QL_gn rfl rfl rfl rfl (QL_gn rfl rfl rfl rfl (QL_gn rfl rfl rfl rfl (QL_gn rfl rfl rfl rfl (QL_gq rfl rfl rfl (Yd_pickT rfl rfl) ((QL_nil 5 rfl rfl rfl))))))
        · skip
          refine QL_q rfl (Yd_pickT rfl rfl) ((QL_nil 6 rfl rfl rfl))
      · intro hb28
        try simp only [decide_eq_true_eq, decide_eq_false_iff_not, Bool.not_eq_true', Bool.not_eq_false', Decidable.not_not, Int.not_lt, Int.not_le, Bool.or_eq_true, Bool.and_eq_true, Bool.or_eq_false_iff, Bool.and_eq_false_iff] at hb28
        refine QL_gn rfl rfl rfl rfl (QL_gn rfl rfl rfl rfl (QL_gn rfl rfl rfl rfl (QL_gn rfl rfl rfl rfl (QL_gu rfl rfl rfl (QL_gu rfl rfl rfl (QL_gu rfl rfl rfl (QL_gu rfl rfl rfl (QL_gn rfl rfl rfl rfl (QL_q rfl (Yd_pickF rfl rfl) ((QL_nil 10 rfl rfl rfl)))))))))))
      · skip
        refine RL_nil (X_then (?_))
        refine C_cond rfl (fun hb38 => ?_) (fun hb38 => ?_)
        · skip
          try simp only [decide_eq_true_eq, decide_eq_false_iff_not, Bool.not_eq_true', Bool.not_eq_false', Decidable.not_not, Int.not_lt, Int.not_le, Bool.or_eq_true, Bool.and_eq_true, Bool.or_eq_false_iff, Bool.and_eq_false_iff] at hb38
          refine C_seq (C_region (RL_q rfl (Yd_assign rfl) (RL_nil (X_then (C_ret (X_thenR (X_ret1 rfl rfl ?_)))))))
          simp only [hb19, Bool.false_eq_true, false_iff, true_iff] at hsame
          refine ⟨congrArg (fun n => Ending.returned (.int .i64 n)) ?_, hE⟩
          unfold rCheck
          repeat' split
          all_goals first | rfl | omega
        · skip
          try simp only [decide_eq_true_eq, decide_eq_false_iff_not, Bool.not_eq_true', Bool.not_eq_false', Decidable.not_not, Int.not_lt, Int.not_le, Bool.or_eq_true, Bool.and_eq_true, Bool.or_eq_false_iff, Bool.and_eq_false_iff] at hb38
          refine C_skip (X_then (C_seq (C_seq (C_region (RL_q rfl (Yd_fld (off := 2) Try.underlying53 (by kernel_rfl) rfl) (RL_q rfl (Yd_load Try.underlying3 rfl rfl (ldB hB2 rfl)) (RL_q rfl (Yd_lss rfl rfl) (RL_q rfl (Yd_move rfl) (?_)))))))))
          apply RL_or (dj := 42) 46 4 rfl
          · intro hb42
            try simp only [decide_eq_true_eq, decide_eq_false_iff_not, Bool.not_eq_true', Bool.not_eq_false', Decidable.not_not, Int.not_lt, Int.not_le, Bool.or_eq_true, Bool.and_eq_true, Bool.or_eq_false_iff, Bool.and_eq_false_iff] at hb42
            refine QL_gq rfl rfl rfl (Yd_fld (off := 2) Try.underlying53 (by kernel_rfl) rfl) (QL_gq rfl rfl rfl (Yd_load Try.underlying3 rfl rfl (ldB hB2 rfl)) (QL_gq rfl rfl rfl (Yd_gtr rfl rfl) (QL_q rfl (Yd_pickF rfl rfl) ((QL_nil 4 rfl rfl rfl)))))
          · intro hb42
            try simp only [decide_eq_true_eq, decide_eq_false_iff_not, Bool.not_eq_true', Bool.not_eq_false', Decidable.not_not, Int.not_lt, Int.not_le, Bool.or_eq_true, Bool.and_eq_true, Bool.or_eq_false_iff, Bool.and_eq_false_iff] at hb42
            refine QL_gn rfl rfl rfl rfl (QL_gn rfl rfl rfl rfl (QL_gn rfl rfl rfl rfl (QL_q rfl (Yd_pickT rfl rfl) ((QL_nil 4 rfl rfl rfl)))))
          · skip
            refine RL_q rfl (Yd_move rfl) (?_)
            apply RL_or (dj := 47) 51 4 rfl
            · intro hb47
              try simp only [decide_eq_true_eq, decide_eq_false_iff_not, Bool.not_eq_true', Bool.not_eq_false', Decidable.not_not, Int.not_lt, Int.not_le, Bool.or_eq_true, Bool.and_eq_true, Bool.or_eq_false_iff, Bool.and_eq_false_iff] at hb47
              refine QL_gq rfl rfl rfl (Yd_fld (off := 3) Try.underlying53 (by kernel_rfl) rfl) (QL_gq rfl rfl rfl (Yd_load Try.underlying3 rfl rfl (ldB hB2 rfl)) (QL_gq rfl rfl rfl (Yd_lss rfl rfl) (QL_q rfl (Yd_pickF rfl rfl) ((QL_nil 4 rfl rfl rfl)))))
            · intro hb47
              try simp only [decide_eq_true_eq, decide_eq_false_iff_not, Bool.not_eq_true', Bool.not_eq_false', Decidable.not_not, Int.not_lt, Int.not_le, Bool.or_eq_true, Bool.and_eq_true, Bool.or_eq_false_iff, Bool.and_eq_false_iff] at hb47
              refine QL_gn rfl rfl rfl rfl (QL_gn rfl rfl rfl rfl (QL_gn rfl rfl rfl rfl (QL_q rfl (Yd_pickT rfl rfl) ((QL_nil 4 rfl rfl rfl)))))
            · skip
              refine RL_q rfl (Yd_move rfl) (?_)
              apply RL_or (dj := 52) 59 7 rfl
              · intro hb52
                try simp only [decide_eq_true_eq, decide_eq_false_iff_not, Bool.not_eq_true', Bool.not_eq_false', Decidable.not_not, Int.not_lt, Int.not_le, Bool.or_eq_true, Bool.and_eq_true, Bool.or_eq_false_iff, Bool.and_eq_false_iff] at hb52
                refine QL_gq rfl rfl rfl (Yd_fld (off := 3) Try.underlying53 (by kernel_rfl) rfl) (QL_gq rfl rfl rfl (Yd_load Try.underlying3 rfl rfl (ldB hB2 rfl)) (QL_gq rfl rfl rfl (Yd_fld (off := 2) Try.underlying53 (by kernel_rfl) rfl) (QL_gq rfl rfl rfl (Yd_load Try.underlying3 rfl rfl (ldB hB2 rfl)) (QL_gq rfl rfl rfl (Yd_sub rfl rfl (i64w (by omega) (by omega))) (QL_gq rfl rfl rfl (Yd_gtr rfl rfl) (QL_q rfl (Yd_pickF rfl rfl) ((QL_nil 7 rfl rfl rfl))))))))
              · intro hb52
                try simp only [decide_eq_true_eq, decide_eq_false_iff_not, Bool.not_eq_true', Bool.not_eq_false', Decidable.not_not, Int.not_lt, Int.not_le, Bool.or_eq_true, Bool.and_eq_true, Bool.or_eq_false_iff, Bool.and_eq_false_iff] at hb52
                refine QL_gn rfl rfl rfl rfl (QL_gn rfl rfl rfl rfl (QL_gn rfl rfl rfl rfl (QL_gn rfl rfl rfl rfl (QL_gn rfl rfl rfl rfl (QL_gn rfl rfl rfl rfl (QL_q rfl (Yd_pickT rfl rfl) ((QL_nil 7 rfl rfl rfl))))))))
              · skip
                refine RL_q rfl (Yd_move rfl) (?_)
                apply RL_or (dj := 60) 68 8 rfl
                · intro hb60
                  try simp only [decide_eq_true_eq, decide_eq_false_iff_not, Bool.not_eq_true', Bool.not_eq_false', Decidable.not_not, Int.not_lt, Int.not_le, Bool.or_eq_true, Bool.and_eq_true, Bool.or_eq_false_iff, Bool.and_eq_false_iff] at hb60
                  refine QL_gq rfl rfl rfl (Yd_fld (off := 4) Try.underlying53 (by kernel_rfl) rfl) (QL_gq rfl rfl rfl (Yd_load Try.underlying24 rfl rfl (ldB hB2 rfl)) (QL_gq rfl rfl rfl (Yd_len Try.underlying24 rfl) (QL_gq rfl rfl rfl (Yd_fld (off := 2) Try.underlying53 (by kernel_rfl) rfl) (QL_gq rfl rfl rfl (Yd_load Try.underlying3 rfl rfl (ldB hB2 rfl)) (QL_gq rfl rfl rfl (Yd_sub rfl rfl (i64w (by omega) (by omega))) (QL_gq rfl rfl rfl (Yd_gtr rfl rfl) (QL_q rfl (Yd_pickF rfl rfl) ((QL_nil 8 rfl rfl rfl)))))))))
                · intro hb60
                  try simp only [decide_eq_true_eq, decide_eq_false_iff_not, Bool.not_eq_true', Bool.not_eq_false', Decidable.not_not, Int.not_lt, Int.not_le, Bool.or_eq_true, Bool.and_eq_true, Bool.or_eq_false_iff, Bool.and_eq_false_iff] at hb60
                  refine QL_gn rfl rfl rfl rfl (QL_gn rfl rfl rfl rfl (QL_gn rfl rfl rfl rfl (QL_gn rfl rfl rfl rfl (QL_gn rfl rfl rfl rfl (QL_gn rfl rfl rfl rfl (QL_gn rfl rfl rfl rfl (QL_q rfl (Yd_pickT rfl rfl) ((QL_nil 8 rfl rfl rfl)))))))))
                · skip
                  refine RL_nil (X_then (?_))
                  refine C_cond rfl (fun hb68 => ?_) (fun hb68 => ?_)
                  · skip
                    try simp only [decide_eq_true_eq, decide_eq_false_iff_not, Bool.not_eq_true', Bool.not_eq_false', Decidable.not_not, Int.not_lt, Int.not_le, Bool.or_eq_true, Bool.and_eq_true, Bool.or_eq_false_iff, Bool.and_eq_false_iff] at hb68
                    refine C_seq (C_region (RL_q rfl (Yd_assign rfl) (RL_nil (X_then (C_ret (X_thenR (X_ret1 rfl rfl ?_)))))))
                    simp only [hb19, Bool.false_eq_true, false_iff, true_iff] at hsame
                    refine ⟨congrArg (fun n => Ending.returned (.int .i64 n)) ?_, hE⟩
                    unfold rCheck
                    repeat' split
                    all_goals first | rfl | omega
                  · skip
                    try simp only [decide_eq_true_eq, decide_eq_false_iff_not, Bool.not_eq_true', Bool.not_eq_false', Decidable.not_not, Int.not_lt, Int.not_le, Bool.or_eq_true, Bool.and_eq_true, Bool.or_eq_false_iff, Bool.and_eq_false_iff] at hb68
                    refine C_skip (X_then (C_seq (C_region (RL_q rfl (Yd_assign rfl) (RL_nil (X_then (C_ret (X_ret1 rfl rfl ?_))))))))
                    simp only [hb19, Bool.false_eq_true, false_iff, true_iff] at hsame
                    refine ⟨congrArg (fun n => Ending.returned (.int .i64 n)) ?_, hE⟩
                    unfold rCheck
                    repeat' split
                    all_goals first | rfl | omega
theorem Check_8 {lo B : Nat} (r : Rq) (pages : Int) (w : World) (hr : RqAt w lo B r) (ho : r.op = 8) :
    Calls Try.prog 38 #[.agg #[.int .i64 r.op, .int .i64 r.page, .int .i64 r.off, .int .i64 r.len, .slice r.A r.n r.c], .int .i64 pages] w fun e w' => e = .returned (.int .i64 (rCheck r pages)) ∧ Ext w w' := by
  have hE := Ext.refl w
  refine calls_of (l := [.agg #[.int .i64 r.op, .int .i64 r.page, .int .i64 r.off, .int .i64 r.len, .slice r.A r.n r.c], .int .i64 pages]) (N := 69) Try.func38 rfl rfl rfl ?_
  refine C_seq (C_region (RL_l rfl (Ld_box rfl ?_)))
  have hg_2 := hE.size
  intro W1 he1 hz1 hB2
  replace hE := Ext.trans hE he1
  replace hr := hr.ext he1
  refine RL_q rfl (Yd_assign rfl) (RL_nil (X_then (C_seq (C_seq (?_)))))
  refine C_regionD (NoB) (l := [(0, true), (1, true), (2, false), (3, true), (4, true), (5, true), (7, true), (8, true), (10, true), (6, false), (9, true), (11, false), (12, false), (13, true), (14, true)]) (by kernel_rfl) (by kernel_rfl) rfl (by kernel_rfl) (fun _ _ d _ _ h => by cases d <;> exact h) ?_
  intro W2 he2 hh2
  replace hE := Ext.trans hE he2
  replace hr := hr.ext he2
  replace hB2 := hB2.ext he2
  have hs2 := he2.size
  refine RO_q rfl rfl (Yd_fld (off := 0) Try.underlying53 (by kernel_rfl) rfl) (RO_q rfl rfl (Yd_load Try.underlying3 rfl rfl (fun W hW => (ldB hB2 rfl) W hW.ext)) (RO_l rfl rfl (Ld_call Try.func41 rfl (by kernel_rfl) rfl (Name_c _ _) ?_)))
  rintro e W3 ⟨rfl, he3⟩
  refine ⟨_, rfl, ?_⟩
  refine ⟨Kp.of_ext he3, ?_⟩
  replace hE := Ext.trans hE he3
  replace hr := hr.ext he3
  replace hB2 := hB2.ext he3
  have hs3 := he3.size
  refine RO_q rfl rfl (Yd_eqlS rfl rfl) (RO_q rfl rfl (Yd_move rfl) (?_))
  refine RO_is (d := 9) (b' := false) rfl (rName_ne (by omega) (by omega)) ?_
  refine RO_gq rfl rfl rfl rfl (Yd_loadA Try.underlying53 rfl (by kernel_rfl) rfl (fun W hW => (ldBA hB2) W hW.ext)) (RO_gq rfl rfl rfl rfl (Yd_fld (off := 0) Try.underlying53 (by kernel_rfl) rfl) (RO_gq rfl rfl rfl rfl (Yd_load Try.underlying3 rfl rfl (fun W hW => (ldB hB2 rfl) W hW.ext)) (RO_gq rfl rfl rfl rfl (Yd_loadA Try.underlying53 rfl (by kernel_rfl) rfl (fun W hW => (ldBA hB2) W hW.ext)) (RO_gl rfl rfl rfl rfl (Ld_call Try.func52 rfl (by kernel_rfl) rfl (named_c _) ?_)))))
  rintro e W4 ⟨rfl, he4⟩
  refine ⟨_, rfl, ?_⟩
  refine ⟨Kp.of_ext he4, ?_⟩
  replace hE := Ext.trans hE he4
  replace hr := hr.ext he4
  replace hB2 := hB2.ext he4
  have hs4 := he4.size
  refine RO_gq rfl rfl rfl rfl (Yd_index Try.underlying76 (by kernel_rfl) Try.underlying55 rfl rfl rfl (by omega) (by omega) (by rw [ho]; rfl)) (RO_gl rfl rfl rfl rfl (Ld_callV rfl Try.func57 rfl (by kernel_rfl) rfl (named2_c r _ hr) ?_))
  rintro e W5 ⟨rfl, he5⟩
  refine ⟨_, rfl, ?_⟩
  refine ⟨Kp.of_ext he5, ?_⟩
  replace hE := Ext.trans hE he5
  replace hr := hr.ext he5
  replace hB2 := hB2.ext he5
  have hs5 := he5.size
  refine RO_gl rfl rfl rfl rfl (Ld_call Try.func43 rfl (by kernel_rfl) rfl (Same_c r (rNamed 2 r) _ hr (rNamed_at 2 hr)) ?_)
  rintro e W6 ⟨rfl, he6⟩
  refine ⟨_, rfl, ?_⟩
  refine ⟨Kp.of_ext he6, ?_⟩
  replace hE := Ext.trans hE he6
  replace hr := hr.ext he6
  replace hB2 := hB2.ext he6
  have hs6 := he6.size
  have hnil : r.d = [] ↔ r.n = 0 := by rw [nil_iff, hr.ln]
  have hsame : rSame r (rNamed 2 r) = true ↔ (r.page = 0 ∧ r.off = 0 ∧ r.len = 0 ∧ r.n = 0) := by simp [rSame, rNamed, hnil, and_assoc]
  refine RO_gq rfl rfl rfl rfl (Yd_not rfl) (RO_q rfl rfl (Yd_pickF rfl rfl) (RO_nil (X_then (?_))))
  refine C_cond rfl (fun hb19 => ?_) (fun hb19 => ?_)
  · skip
    try simp only [decide_eq_true_eq, decide_eq_false_iff_not, Bool.not_eq_true', Bool.not_eq_false', Decidable.not_not, Int.not_lt, Int.not_le, Bool.or_eq_true, Bool.and_eq_true, Bool.or_eq_false_iff, Bool.and_eq_false_iff] at hb19
    refine C_seq (C_region (RL_q rfl (Yd_assign rfl) (RL_nil (X_then (C_ret (X_thenR (X_ret1 rfl rfl ?_)))))))
    simp only [hb19, Bool.false_eq_true, false_iff, true_iff] at hsame
    refine ⟨congrArg (fun n => Ending.returned (.int .i64 n)) ?_, hE⟩
    unfold rCheck
    repeat' split
    all_goals first | rfl | omega
  · skip
    try simp only [decide_eq_true_eq, decide_eq_false_iff_not, Bool.not_eq_true', Bool.not_eq_false', Decidable.not_not, Int.not_lt, Int.not_le, Bool.or_eq_true, Bool.and_eq_true, Bool.or_eq_false_iff, Bool.and_eq_false_iff] at hb19
    refine C_skip (X_then (C_seq (C_seq (C_region (RL_q rfl (Yd_fld (off := 0) Try.underlying53 (by kernel_rfl) rfl) (RL_q rfl (Yd_load Try.underlying3 rfl rfl (ldB hB2 rfl)) (RL_q rfl (Yd_neq rfl rfl) (RL_q rfl (Yd_move rfl) (?_)))))))))
    apply RL_and (dj := 23) 27 4 rfl
    · intro hb23
      try simp only [decide_eq_true_eq, decide_eq_false_iff_not, Bool.not_eq_true', Bool.not_eq_false', Decidable.not_not, Int.not_lt, Int.not_le, Bool.or_eq_true, Bool.and_eq_true, Bool.or_eq_false_iff, Bool.and_eq_false_iff] at hb23
      refine QL_gq rfl rfl rfl (Yd_fld (off := 0) Try.underlying53 (by kernel_rfl) rfl) (QL_gq rfl rfl rfl (Yd_load Try.underlying3 rfl rfl (ldB hB2 rfl)) (QL_gq rfl rfl rfl (Yd_neq rfl rfl) (QL_q rfl (Yd_pickT rfl rfl) ((QL_nil 4 rfl rfl rfl)))))
    · intro hb23
      try simp only [decide_eq_true_eq, decide_eq_false_iff_not, Bool.not_eq_true', Bool.not_eq_false', Decidable.not_not, Int.not_lt, Int.not_le, Bool.or_eq_true, Bool.and_eq_true, Bool.or_eq_false_iff, Bool.and_eq_false_iff] at hb23
      refine QL_gn rfl rfl rfl rfl (QL_gn rfl rfl rfl rfl (QL_gn rfl rfl rfl rfl (QL_q rfl (Yd_pickF rfl rfl) ((QL_nil 4 rfl rfl rfl)))))
    · skip
      refine RL_q rfl (Yd_move rfl) (?_)
      apply RL_and (dj := 28) 38 10 rfl
      · intro hb28
        try simp only [decide_eq_true_eq, decide_eq_false_iff_not, Bool.not_eq_true', Bool.not_eq_false', Decidable.not_not, Int.not_lt, Int.not_le, Bool.or_eq_true, Bool.and_eq_true, Bool.or_eq_false_iff, Bool.and_eq_false_iff] at hb28
        refine QL_gq rfl rfl rfl (Yd_fld (off := 1) Try.underlying53 (by kernel_rfl) rfl) (QL_gq rfl rfl rfl (Yd_load Try.underlying3 rfl rfl (ldB hB2 rfl)) (QL_gq rfl rfl rfl (Yd_lss rfl rfl) (QL_gq rfl rfl rfl (Yd_move rfl) (?_))))
        apply QL_or (dj := 32) 37 5 rfl
        · intro hb32
          try simp only [decide_eq_true_eq, decide_eq_false_iff_not, Bool.not_eq_true', Bool.not_eq_false', Decidable.not_not, Int.not_lt, Int.not_le, Bool.or_eq_true, Bool.and_eq_true, Bool.or_eq_false_iff, Bool.and_eq_false_iff] at hb32
          refine QL_gq rfl rfl rfl (Yd_fld (off := 1) Try.underlying53 (by kernel_rfl) rfl) (QL_gq rfl rfl rfl (Yd_load Try.underlying3 rfl rfl (ldB hB2 rfl)) (QL_gq rfl rfl rfl (Yd_move rfl) (QL_gq rfl rfl rfl (Yd_geq rfl rfl) (QL_gq rfl rfl rfl (Yd_pickF rfl rfl) ((QL_nil 5 rfl rfl rfl))))))
        · intro hb32
          try simp only [decide_eq_true_eq, decide_eq_false_iff_not, Bool.not_eq_true', Bool.not_eq_false', Decidable.not_not, Int.not_lt, Int.not_le, Bool.or_eq_true, Bool.and_eq_true, Bool.or_eq_false_iff, Bool.and_eq_false_iff] at hb32
          refine QL_gn rfl rfl rfl rfl (QL_gn rfl rfl rfl rfl (QL_gn rfl rfl rfl rfl (QL_gn rfl rfl rfl rfl (QL_gq rfl rfl rfl (Yd_pickT rfl rfl) ((QL_nil 5 rfl rfl rfl))))))
        · skip
          refine QL_q rfl (Yd_pickT rfl rfl) ((QL_nil 6 rfl rfl rfl))
      · intro hb28
        try simp only [decide_eq_true_eq, decide_eq_false_iff_not, Bool.not_eq_true', Bool.not_eq_false', Decidable.not_not, Int.not_lt, Int.not_le, Bool.or_eq_true, Bool.and_eq_true, Bool.or_eq_false_iff, Bool.and_eq_false_iff] at hb28
        refine QL_gn rfl rfl rfl rfl (QL_gn rfl rfl rfl rfl (QL_gn rfl rfl rfl rfl (QL_gn rfl rfl rfl rfl (QL_gu rfl rfl rfl (QL_gu rfl rfl rfl (QL_gu rfl rfl rfl (QL_gu rfl rfl rfl (QL_gn rfl rfl rfl rfl (QL_q rfl (Yd_pickF rfl rfl) ((QL_nil 10 rfl rfl rfl)))))))))))
      · skip
        refine RL_nil (X_then (?_))
        refine C_cond rfl (fun hb38 => ?_) (fun hb38 => ?_)
        · skip
          try simp only [decide_eq_true_eq, decide_eq_false_iff_not, Bool.not_eq_true', Bool.not_eq_false', Decidable.not_not, Int.not_lt, Int.not_le, Bool.or_eq_true, Bool.and_eq_true, Bool.or_eq_false_iff, Bool.and_eq_false_iff] at hb38
          refine C_seq (C_region (RL_q rfl (Yd_assign rfl) (RL_nil (X_then (C_ret (X_thenR (X_ret1 rfl rfl ?_)))))))
          simp only [hb19, Bool.false_eq_true, false_iff, true_iff] at hsame
          refine ⟨congrArg (fun n => Ending.returned (.int .i64 n)) ?_, hE⟩
          unfold rCheck
          repeat' split
          all_goals first | rfl | omega
        · skip
          try simp only [decide_eq_true_eq, decide_eq_false_iff_not, Bool.not_eq_true', Bool.not_eq_false', Decidable.not_not, Int.not_lt, Int.not_le, Bool.or_eq_true, Bool.and_eq_true, Bool.or_eq_false_iff, Bool.and_eq_false_iff] at hb38
          refine C_skip (X_then (C_seq (C_seq (C_region (RL_q rfl (Yd_fld (off := 2) Try.underlying53 (by kernel_rfl) rfl) (RL_q rfl (Yd_load Try.underlying3 rfl rfl (ldB hB2 rfl)) (RL_q rfl (Yd_lss rfl rfl) (RL_q rfl (Yd_move rfl) (?_)))))))))
          apply RL_or (dj := 42) 46 4 rfl
          · intro hb42
            try simp only [decide_eq_true_eq, decide_eq_false_iff_not, Bool.not_eq_true', Bool.not_eq_false', Decidable.not_not, Int.not_lt, Int.not_le, Bool.or_eq_true, Bool.and_eq_true, Bool.or_eq_false_iff, Bool.and_eq_false_iff] at hb42
            refine QL_gq rfl rfl rfl (Yd_fld (off := 2) Try.underlying53 (by kernel_rfl) rfl) (QL_gq rfl rfl rfl (Yd_load Try.underlying3 rfl rfl (ldB hB2 rfl)) (QL_gq rfl rfl rfl (Yd_gtr rfl rfl) (QL_q rfl (Yd_pickF rfl rfl) ((QL_nil 4 rfl rfl rfl)))))
          · intro hb42
            try simp only [decide_eq_true_eq, decide_eq_false_iff_not, Bool.not_eq_true', Bool.not_eq_false', Decidable.not_not, Int.not_lt, Int.not_le, Bool.or_eq_true, Bool.and_eq_true, Bool.or_eq_false_iff, Bool.and_eq_false_iff] at hb42
            refine QL_gn rfl rfl rfl rfl (QL_gn rfl rfl rfl rfl (QL_gn rfl rfl rfl rfl (QL_q rfl (Yd_pickT rfl rfl) ((QL_nil 4 rfl rfl rfl)))))
          · skip
            refine RL_q rfl (Yd_move rfl) (?_)
            apply RL_or (dj := 47) 51 4 rfl
            · intro hb47
              try simp only [decide_eq_true_eq, decide_eq_false_iff_not, Bool.not_eq_true', Bool.not_eq_false', Decidable.not_not, Int.not_lt, Int.not_le, Bool.or_eq_true, Bool.and_eq_true, Bool.or_eq_false_iff, Bool.and_eq_false_iff] at hb47
              refine QL_gq rfl rfl rfl (Yd_fld (off := 3) Try.underlying53 (by kernel_rfl) rfl) (QL_gq rfl rfl rfl (Yd_load Try.underlying3 rfl rfl (ldB hB2 rfl)) (QL_gq rfl rfl rfl (Yd_lss rfl rfl) (QL_q rfl (Yd_pickF rfl rfl) ((QL_nil 4 rfl rfl rfl)))))
            · intro hb47
              try simp only [decide_eq_true_eq, decide_eq_false_iff_not, Bool.not_eq_true', Bool.not_eq_false', Decidable.not_not, Int.not_lt, Int.not_le, Bool.or_eq_true, Bool.and_eq_true, Bool.or_eq_false_iff, Bool.and_eq_false_iff] at hb47
              refine QL_gn rfl rfl rfl rfl (QL_gn rfl rfl rfl rfl (QL_gn rfl rfl rfl rfl (QL_q rfl (Yd_pickT rfl rfl) ((QL_nil 4 rfl rfl rfl)))))
            · skip
              refine RL_q rfl (Yd_move rfl) (?_)
              apply RL_or (dj := 52) 59 7 rfl
              · intro hb52
                try simp only [decide_eq_true_eq, decide_eq_false_iff_not, Bool.not_eq_true', Bool.not_eq_false', Decidable.not_not, Int.not_lt, Int.not_le, Bool.or_eq_true, Bool.and_eq_true, Bool.or_eq_false_iff, Bool.and_eq_false_iff] at hb52
                refine QL_gq rfl rfl rfl (Yd_fld (off := 3) Try.underlying53 (by kernel_rfl) rfl) (QL_gq rfl rfl rfl (Yd_load Try.underlying3 rfl rfl (ldB hB2 rfl)) (QL_gq rfl rfl rfl (Yd_fld (off := 2) Try.underlying53 (by kernel_rfl) rfl) (QL_gq rfl rfl rfl (Yd_load Try.underlying3 rfl rfl (ldB hB2 rfl)) (QL_gq rfl rfl rfl (Yd_sub rfl rfl (i64w (by omega) (by omega))) (QL_gq rfl rfl rfl (Yd_gtr rfl rfl) (QL_q rfl (Yd_pickF rfl rfl) ((QL_nil 7 rfl rfl rfl))))))))
              · intro hb52
                try simp only [decide_eq_true_eq, decide_eq_false_iff_not, Bool.not_eq_true', Bool.not_eq_false', Decidable.not_not, Int.not_lt, Int.not_le, Bool.or_eq_true, Bool.and_eq_true, Bool.or_eq_false_iff, Bool.and_eq_false_iff] at hb52
                refine QL_gn rfl rfl rfl rfl (QL_gn rfl rfl rfl rfl (QL_gn rfl rfl rfl rfl (QL_gn rfl rfl rfl rfl (QL_gn rfl rfl rfl rfl (QL_gn rfl rfl rfl rfl (QL_q rfl (Yd_pickT rfl rfl) ((QL_nil 7 rfl rfl rfl))))))))
              · skip
                refine RL_q rfl (Yd_move rfl) (?_)
                apply RL_or (dj := 60) 68 8 rfl
                · intro hb60
                  try simp only [decide_eq_true_eq, decide_eq_false_iff_not, Bool.not_eq_true', Bool.not_eq_false', Decidable.not_not, Int.not_lt, Int.not_le, Bool.or_eq_true, Bool.and_eq_true, Bool.or_eq_false_iff, Bool.and_eq_false_iff] at hb60
                  refine QL_gq rfl rfl rfl (Yd_fld (off := 4) Try.underlying53 (by kernel_rfl) rfl) (QL_gq rfl rfl rfl (Yd_load Try.underlying24 rfl rfl (ldB hB2 rfl)) (QL_gq rfl rfl rfl (Yd_len Try.underlying24 rfl) (QL_gq rfl rfl rfl (Yd_fld (off := 2) Try.underlying53 (by kernel_rfl) rfl) (QL_gq rfl rfl rfl (Yd_load Try.underlying3 rfl rfl (ldB hB2 rfl)) (QL_gq rfl rfl rfl (Yd_sub rfl rfl (i64w (by omega) (by omega))) (QL_gq rfl rfl rfl (Yd_gtr rfl rfl) (QL_q rfl (Yd_pickF rfl rfl) ((QL_nil 8 rfl rfl rfl)))))))))
                · intro hb60
                  try simp only [decide_eq_true_eq, decide_eq_false_iff_not, Bool.not_eq_true', Bool.not_eq_false', Decidable.not_not, Int.not_lt, Int.not_le, Bool.or_eq_true, Bool.and_eq_true, Bool.or_eq_false_iff, Bool.and_eq_false_iff] at hb60
                  refine QL_gn rfl rfl rfl rfl (QL_gn rfl rfl rfl rfl (QL_gn rfl rfl rfl rfl (QL_gn rfl rfl rfl rfl (QL_gn rfl rfl rfl rfl (QL_gn rfl rfl rfl rfl (QL_gn rfl rfl rfl rfl (QL_q rfl (Yd_pickT rfl rfl) ((QL_nil 8 rfl rfl rfl)))))))))
                · skip
                  refine RL_nil (X_then (?_))
                  refine C_cond rfl (fun hb68 => ?_) (fun hb68 => ?_)
                  · skip
                    try simp only [decide_eq_true_eq, decide_eq_false_iff_not, Bool.not_eq_true', Bool.not_eq_false', Decidable.not_not, Int.not_lt, Int.not_le, Bool.or_eq_true, Bool.and_eq_true, Bool.or_eq_false_iff, Bool.and_eq_false_iff] at hb68
                    refine C_seq (C_region (RL_q rfl (Yd_assign rfl) (RL_nil (X_then (C_ret (X_thenR (X_ret1 rfl rfl ?_)))))))
                    simp only [hb19, Bool.false_eq_true, false_iff, true_iff] at hsame
                    refine ⟨congrArg (fun n => Ending.returned (.int .i64 n)) ?_, hE⟩
                    unfold rCheck
                    repeat' split
                    all_goals first | rfl | omega
                  · skip
                    try simp only [decide_eq_true_eq, decide_eq_false_iff_not, Bool.not_eq_true', Bool.not_eq_false', Decidable.not_not, Int.not_lt, Int.not_le, Bool.or_eq_true, Bool.and_eq_true, Bool.or_eq_false_iff, Bool.and_eq_false_iff] at hb68
                    refine C_skip (X_then (C_seq (C_region (RL_q rfl (Yd_assign rfl) (RL_nil (X_then (C_ret (X_ret1 rfl rfl ?_))))))))
                    simp only [hb19, Bool.false_eq_true, false_iff, true_iff] at hsame
                    refine ⟨congrArg (fun n => Ending.returned (.int .i64 n)) ?_, hE⟩
                    unfold rCheck
                    repeat' split
                    all_goals first | rfl | omega
end Go.Proofs.AL
