import Derived.Test.YtefidipfedjpbaaLay
set_option linter.unusedVariables false
set_option linter.unusedSimpArgs false
namespace Go.Proofs.AL
open Go.RowKit

/-- one bit of the check -/
def cbit (n : Nat) : Nat := n / 2 ^^^ (if n % 2 = 1 then 3988292384 else 0)
def cbits : Nat → Nat → Nat
  | 0, n => n
  | k + 1, n => cbits k (cbit n)
theorem cbit_xor (a b : Nat) : cbit (a ^^^ b) = cbit a ^^^ cbit b := by
  unfold cbit
  rw [Nat.xor_div_two]
  have h : (a ^^^ b) % 2 = 1 ↔ ¬(a % 2 = 1 ↔ b % 2 = 1) := Nat.xor_mod_two_eq_one
  have hp : ∀ p x y : Nat, (x ^^^ p) ^^^ (y ^^^ p) = x ^^^ y := fun p x y => by
    rw [Nat.xor_assoc, ← Nat.xor_assoc p y p, Nat.xor_comm p y, Nat.xor_assoc y p p, Nat.xor_self, Nat.xor_zero]
  by_cases ha : a % 2 = 1 <;> by_cases hb : b % 2 = 1
  · rw [if_neg (by rw [h]; simp [ha, hb]), if_pos ha, if_pos hb, hp, Nat.xor_zero]
  · rw [if_pos (by rw [h]; simp [ha, hb]), if_pos ha, if_neg hb, Nat.xor_zero, Nat.xor_assoc, Nat.xor_comm (b / 2), ← Nat.xor_assoc]
  · rw [if_pos (by rw [h]; simp [ha, hb]), if_neg ha, if_pos hb, Nat.xor_zero, Nat.xor_assoc]
  · rw [if_neg (by rw [h]; simp [ha, hb]), if_neg ha, if_neg hb]; simp
theorem cbits_xor (k a b : Nat) : cbits k (a ^^^ b) = cbits k a ^^^ cbits k b := by
  induction k generalizing a b with
  | zero => rfl
  | succ k ih => simp only [cbits, cbit_xor, ih]
theorem cbit_even (n : Nat) : cbit (2 * n) = n := by
  unfold cbit
  rw [if_neg (by omega)]
  simp
theorem cbits_high (n : Nat) : cbits 8 (256 * n) = n := by
  have e : ∀ m, cbit (2 * m) = m := cbit_even
  have h : 256 * n = 2 * (2 * (2 * (2 * (2 * (2 * (2 * (2 * n))))))) := by omega
  rw [h]
  simp only [cbits, e]
theorem split8 (n : Nat) : n = (256 * (n / 256)) ^^^ (n % 256) := by
  apply Nat.eq_of_testBit_eq
  intro i
  rw [Nat.testBit_xor, show (256 : Nat) = 2 ^ 8 from rfl, Nat.testBit_mod_two_pow, Nat.mul_comm, Nat.testBit_mul_two_pow, Nat.testBit_div_two_pow]
  by_cases hi : i < 8
  · simp [hi, show ¬ 8 ≤ i by omega]
  · simp [hi, show 8 ≤ i by omega, show i - 8 + 8 = i by omega]
/-- a byte's step: by a table, and bit by bit -/
theorem cstep (n c : Nat) : n / 256 ^^^ cbits 8 (n % 256 ^^^ c) = cbits 8 (n ^^^ c) := by
  conv => rhs; rw [split8 n, Nat.xor_assoc, cbits_xor, cbits_high]
theorem cbit_lt {n : Nat} (h : n < 4294967296) : cbit n < 4294967296 := by
  unfold cbit
  refine Nat.xor_lt_two_pow (n := 32) (by omega) (by split <;> omega)
theorem cbits_lt (k : Nat) {n : Nat} (h : n < 4294967296) : cbits k n < 4294967296 := by
  induction k generalizing n with
  | zero => exact h
  | succ k ih => exact ih (cbit_lt h)
theorem u32_wrap (n : Int) : IntKind.u32.wrap n = n % 4294967296 := by simp [IntKind.wrap, IntKind.bits, IntKind.signed]
theorem xor32 {a b : Nat} (ha : a < 4294967296) (hb : b < 4294967296) : bitsOp .xor .u32 (a : Int) (b : Int) = ((a ^^^ b : Nat) : Int) := by
  have h : a ^^^ b < 4294967296 := Nat.xor_lt_two_pow (n := 32) ha hb
  change IntKind.u32.wrap (((BitVec.ofInt 32 _ ^^^ BitVec.ofInt 32 _).toNat : Nat) : Int) = _
  rw [u32_wrap, BitVec.toNat_xor, BitVec.toNat_ofInt, BitVec.toNat_ofInt]
  have e1 : ((a : Int) % ((2 ^ 32 : Nat) : Int)).toNat = a := by omega
  have e2 : ((b : Int) % ((2 ^ 32 : Nat) : Int)).toNat = b := by omega
  rw [e1, e2]
  omega
theorem and1_32 {a : Nat} (ha : a < 4294967296) : bitsOp .and .u32 (a : Int) 1 = ((a % 2 : Nat) : Int) := by
  change IntKind.u32.wrap (((BitVec.ofInt 32 _ &&& BitVec.ofInt 32 _).toNat : Nat) : Int) = _
  rw [u32_wrap, BitVec.toNat_and, BitVec.toNat_ofInt, BitVec.toNat_ofInt]
  have e1 : ((a : Int) % ((2 ^ 32 : Nat) : Int)).toNat = a := by omega
  have e2 : ((1 : Int) % ((2 ^ 32 : Nat) : Int)).toNat = 1 := by decide
  rw [e1, e2, Nat.and_one_is_mod]
  omega
theorem xor8 {a b : Nat} (ha : a < 256) (hb : b < 256) : bitsOp .xor .u8 (a : Int) (b : Int) = ((a ^^^ b : Nat) : Int) := by
  have h : a ^^^ b < 256 := Nat.xor_lt_two_pow (n := 8) ha hb
  change IntKind.u8.wrap (((BitVec.ofInt 8 _ ^^^ BitVec.ofInt 8 _).toNat : Nat) : Int) = _
  rw [IntKind.wrap_u8, BitVec.toNat_xor, BitVec.toNat_ofInt, BitVec.toNat_ofInt]
  have e1 : ((a : Int) % ((2 ^ 8 : Nat) : Int)).toNat = a := by omega
  have e2 : ((b : Int) % ((2 ^ 8 : Nat) : Int)).toNat = b := by omega
  rw [e1, e2]
  omega
/-- all ones, less a number: its complement -/
theorem com32 {a : Nat} (ha : a < 4294967296) : bitsOp .xor .u32 4294967295 (a : Int) = ((4294967295 - a : Nat) : Int) := by
  rw [show (4294967295 : Int) = ((4294967295 : Nat) : Int) from rfl, xor32 (by omega) ha]
  congr 1
  have h := congrArg BitVec.toNat (BitVec.allOnes_xor (x := BitVec.ofNat 32 a))
  simp only [BitVec.toNat_xor, BitVec.toNat_allOnes, BitVec.toNat_not, BitVec.toNat_ofNat, Nat.mod_eq_of_lt ha] at h
  exact h
/-- the check, bit by bit: the register behind bytes -/
def creg (n : Nat) : List Int → Nat
  | [] => n
  | b :: r => creg (cbits 8 (n ^^^ b.toNat)) r
def cmore (n : Nat) (l : List Int) : Nat := 4294967295 - creg (4294967295 - n) l
theorem creg_append (n : Nat) (a b : List Int) : creg n (a ++ b) = creg (creg n a) b := by
  induction a generalizing n with
  | nil => rfl
  | cons x a ih => exact ih _

theorem cbits_rest {k m : Nat} (h : k < 8) : cbits (8 - k) m = cbits (8 - (k + 1)) (cbit m) := by
  obtain ⟨j, hj⟩ : ∃ j, 8 - k = j + 1 := ⟨7 - k, by omega⟩
  rw [hj, show 8 - (k + 1) = j from by omega]; rfl
theorem creg_drop (n : Nat) (l : List Int) (i : Nat) (h : i < l.length) : creg n (l.drop i) = creg (cbits 8 (n ^^^ l[i].toNat)) (l.drop (i + 1)) := by
  rw [List.drop_eq_getElem_cons h]; rfl
theorem creg_lt {n : Nat} (h : n < 4294967296) {l : List Int} (hl : ∀ x ∈ l, 0 ≤ x ∧ x ≤ 255) : creg n l < 4294967296 := by
  induction l generalizing n with
  | nil => exact h
  | cons x l ih =>
    have := hl x (by simp)
    exact ih (cbits_lt 8 (Nat.xor_lt_two_pow (n := 32) h (by omega))) (fun y hy => hl y (by simp [hy]))
theorem refMore_c {B : Nat} (A : Option Addr) (n c sum : Nat) (b : List Int) (w : World) (hr : Rd w B 1 A n (ints .u8 b)) (hn : b.length = n) (hn2 : n ≤ 9223372036854775807) (hy : Byt b) (hs : sum < 4294967296) :
    Calls Try.prog 60 #[.int .u32 (sum : Int), .slice A n c] w fun e w' => e = .returned (.int .u32 (cmore sum b : Int)) ∧ w = w' := by
  refine calls_of (l := [.int .u32 (sum : Int), .slice A n c]) (N := 37) Try.func60 rfl rfl rfl ?_
  refine C_seq (C_region (RL_q rfl (Yd_assign rfl) (RL_nil (X_then (C_seq (C_region (RL_q rfl (Yd_move rfl) (RL_q rfl (Yd_sub rfl rfl (u32w (by omega) (by omega))) (RL_q rfl (Yd_assign rfl) (RL_nil (X_then (C_seq (C_seq (C_region (RL_q rfl (Yd_assign rfl) (RL_nil (X_then (C_block (?_)))))))))))))))))))
  refine C_loop (T := Nat × Nat) (fun ⟨i, reg⟩ => [(1, .slice A n c), (5, .int .u32 (reg : Int)), (6, .int .i64 i)]) (fun ⟨i, reg⟩ w1 => i ≤ n ∧ reg < 4294967296 ∧ creg reg (b.drop i) = creg (4294967295 - sum) b ∧ w = w1) (fun ⟨i, reg⟩ => n - i) (⟨0, 4294967295 - sum⟩) ⟨rfl, (lk_int rfl (by omega)), rfl, trivial⟩ ?_ ?_
  · exact ⟨by omega, by omega, rfl, rfl⟩
  · rintro ⟨i, reg⟩ w1 ⟨hi, hrl, hreg, rfl⟩
    refine C_seq (C_seq (C_region (RL_q rfl (Yd_move rfl) (RL_q rfl (Yd_move rfl) (RL_q rfl (Yd_len Try.underlying47 rfl) (RL_q rfl (Yd_lss rfl rfl) (RL_nil (X_then (?_)))))))))
    refine C_cond rfl (fun hb => ?_) (fun hb => ?_)
    · skip
      have hb : (i : Int) < n := of_decide_eq_true hb
      obtain ⟨ad, rfl, _, _⟩ := hr.cells (by omega)
      have hget := ints_get .u8 b i (by omega)
      have hbi := hy.get i (by omega)
      obtain ⟨x, hbx⟩ := Int.eq_ofNat_of_zero_le hbi.1
      have hx8 : x < 256 := by omega
      have hrx : reg ^^^ x < 4294967296 := Nat.xor_lt_two_pow (n := 32) hrl (by omega)
      have hx22 : bitsOp .xor .u32 (reg : Int) (b[i]'(by omega)) = ((reg ^^^ x : Nat) : Int) := by rw [hbx]; exact xor32 hrl (by omega)
      refine C_skip (X_then (C_seq (C_block (C_seq (C_region (RL_q rfl (Yd_move rfl) (RL_q rfl (Yd_move rfl) (RL_q rfl (Yd_move rfl) (RL_q rfl (Yd_idx Try.underlying47 (sz := 1) (by kernel_rfl) rfl rfl (by omega) (by omega)) (RL_q rfl (Yd_load Try.underlying5 rfl rfl (ldK hr (by omega) hget (by omega))) (RL_q rfl (Yd_conv ⟨_, Try.underlying5⟩ Try.underlying82 rfl (u32w (by omega) (by omega))) (RL_q rfl (Yd_xor rfl rfl hx22) (RL_q rfl (Yd_assign rfl) (RL_nil (X_then (C_seq (C_region (RL_q rfl (Yd_assign rfl) (RL_nil (X_then (C_block (?_))))))))))))))))))))))
      refine C_loop (T := Nat × Nat) (fun ⟨k, m⟩ => [(1, .slice (some ad) n c), (5, .int .u32 (m : Int)), (6, .int .i64 i), (7, .int .i64 k)]) (fun ⟨k, m⟩ w1 => k ≤ 8 ∧ m < 4294967296 ∧ cbits (8 - k) m = cbits 8 (reg ^^^ x) ∧ w = w1) (fun ⟨k, m⟩ => 8 - k) (⟨0, reg ^^^ x⟩) ⟨rfl, rfl, rfl, rfl, trivial⟩ ?_ ?_
      · exact ⟨by omega, hrx, rfl, rfl⟩
      · rintro ⟨k, m⟩ w1 ⟨hk, hm, hcb, rfl⟩
        refine C_seq (C_seq (C_region (RL_q rfl (Yd_move rfl) (RL_q rfl (Yd_lss rfl rfl) (RL_nil (X_then (?_)))))))
        refine C_cond rfl (fun hb => ?_) (fun hb => ?_)
        · skip
          have hbk : (k : Int) < 8 := of_decide_eq_true hb
          have hcl := cbit_lt hm
          rw [cbits_rest (by omega)] at hcb
          refine C_skip (X_then (C_seq (C_block (C_seq (C_region (RL_q rfl (Yd_move rfl) (RL_q rfl (Yd_rem rfl rfl (by omega) (tmodw (by omega))) (RL_q rfl (Yd_eql rfl rfl) (RL_nil (X_then (?_)))))))))))
          refine C_cond rfl (fun hb2 => ?_) (fun hb2 => ?_)
          · skip
            have hb2 : (m : Int) % 2 = 1 := of_decide_eq_true hb2
            have hx32 : bitsOp .xor .u32 ((m : Int) / 2) 3988292384 = ((m / 2 ^^^ 3988292384 : Nat) : Int) := by
              rw [show ((m : Int) / 2) = ((m / 2 : Nat) : Int) from by omega]; exact xor32 (b := 3988292384) (by omega) (by omega)
            refine C_region (RL_q rfl (Yd_move rfl) (RL_q rfl (Yd_quo rfl rfl (by omega) (tdiv32 (by omega) (by omega) (by omega))) (RL_q rfl (Yd_xor rfl rfl hx32) (RL_q rfl (Yd_assign rfl) (RL_nil (X_block (X_then (C_region (RL_q rfl (Yd_move rfl) (RL_q rfl (Yd_add rfl rfl (i64w (by omega) (by omega))) (RL_q rfl (Yd_assign rfl) (RL_nil (?_)))))))))))))
            refine X_again (⟨k + 1, cbit m⟩) ⟨rfl, (lk_int rfl (by unfold cbit; rw [if_pos (by omega)])), rfl, rfl, trivial⟩ ?_ (by first | omega | (dsimp only; omega))
            exact ⟨by omega, hcl, hcb, rfl⟩
          · skip
            have hb2 : ¬ (m : Int) % 2 = 1 := of_decide_eq_false hb2
            refine C_region (RL_q rfl (Yd_move rfl) (RL_q rfl (Yd_quo rfl rfl (by omega) (tdiv32 (by omega) (by omega) (by omega))) (RL_q rfl (Yd_assign rfl) (RL_nil (X_block (X_then (C_region (RL_q rfl (Yd_move rfl) (RL_q rfl (Yd_add rfl rfl (i64w (by omega) (by omega))) (RL_q rfl (Yd_assign rfl) (RL_nil (?_))))))))))))
            refine X_again (⟨k + 1, cbit m⟩) ⟨rfl, (lk_int rfl (by unfold cbit; rw [if_neg (by omega), Nat.xor_zero]; omega)), rfl, rfl, trivial⟩ ?_ (by first | omega | (dsimp only; omega))
            exact ⟨by omega, hcl, hcb, rfl⟩
        · skip
          have hbk : ¬ (k : Int) < 8 := of_decide_eq_false hb
          obtain rfl : k = 8 := by omega
          have hcb : m = cbits 8 (reg ^^^ x) := hcb
          refine C_exit (X_thenE (X_thenE (X_blockE (X_block (X_then (C_region (RL_q rfl (Yd_move rfl) (RL_q rfl (Yd_add rfl rfl (i64w (by omega) (by omega))) (RL_q rfl (Yd_assign rfl) (RL_nil (?_)))))))))))
          refine X_again (⟨i + 1, m⟩) ⟨rfl, rfl, rfl, trivial⟩ ?_ (by first | omega | (dsimp only; omega))
          refine ⟨by omega, hm, ?_, rfl⟩
          rw [hcb, ← hreg, creg_drop _ _ i (by omega), hbx]; rfl
    · skip
      have hb : ¬ (i : Int) < n := of_decide_eq_false hb
      obtain rfl : i = n := by omega
      rw [List.drop_eq_nil_of_le (by omega)] at hreg
      have hreg : reg = creg (4294967295 - sum) b := hreg
      refine C_exit (X_thenE (X_thenE (X_blockE (X_then (C_seq (C_region (RL_q rfl (Yd_move rfl) (RL_q rfl (Yd_sub rfl rfl (u32w (by omega) (by omega))) (RL_q rfl (Yd_assign rfl) (RL_nil (X_then (C_ret (X_ret1 rfl rfl ?_)))))))))))))
      refine ⟨congrArg (fun n => Ending.returned (.int .u32 n)) ?_, rfl⟩
      rw [cmore, ← hreg]; omega

theorem Yd_idxAL {P : Program} {S : World → Prop} {E : Env} {ty t e : TypeId} {x y : Operand} {sz n g o : Nat} {k : IntKind} {i : Int} (hT : P.underlying t = some (.array n e)) (hs : (P.info? e).map (·.size) = some sz) (hx : ev E x = some (.pointer (some ⟨g, o, none⟩))) (hy : ev E y = some (.int k i))
    (h0 : 0 ≤ i) (h1 : i < n) : Yd P S E (.indexAddr t x y) ty (.pointer (some ⟨g, o + i.toNat * sz, none⟩)) := by
  rw [← add_lit]; exact Yd_idxA hT hs hx hy h0 h1
def zeros : List Value := (List.range 256).map fun _ => .int .u32 0
theorem zeros_len : zeros.length = 256 := by rw [zeros, List.length_map, List.length_range]
def tbl (i : Nat) : List Value := (List.range 256).map fun j => .int .u32 ((if j < i then cbits 8 j else 0 : Nat) : Int)
@[simp] theorem tbl_len (i : Nat) : (tbl i).length = 256 := by simp [tbl]
theorem tbl_zero : tbl 0 = zeros := by
  unfold tbl zeros
  refine List.map_congr_left fun j _ => ?_
  rw [if_neg (by omega)]; rfl
theorem tbl_set (i o : Nat) (hi : i < 256) (ho : o = i) : (tbl i).take o ++ cellsL (.int .u32 ((cbits 8 i : Nat) : Int)) ++ (tbl i).drop (o + (cellsL (.int .u32 ((cbits 8 i : Nat) : Int))).length) = tbl (i + 1) := by
  subst ho
  have h2 : cellsL (.int .u32 ((cbits 8 o : Nat) : Int)) = [.int .u32 ((cbits 8 o : Nat) : Int)] := rfl
  rw [h2]
  have h3 : (tbl o).take o ++ [Value.int .u32 ((cbits 8 o : Nat) : Int)] ++ (tbl o).drop (o + [Value.int .u32 ((cbits 8 o : Nat) : Int)].length) = (tbl o).set o (.int .u32 ((cbits 8 o : Nat) : Int)) := by
    rw [List.set_eq_take_append_cons_drop, if_pos (by simpa using hi)]; simp
  rw [h3]
  apply List.ext_getElem (by simp)
  intro j h1 h2
  rw [List.getElem_set]
  by_cases h : o = j
  · subst h; simp [tbl]
  · rw [if_neg h]
    simp only [tbl, List.getElem_map, List.getElem_range]
    congr 2
    by_cases h4 : j < o
    · rw [if_pos h4, if_pos (by omega)]
    · rw [if_neg h4, if_neg (by omega)]
theorem tbl_one : ∀ u ∈ tbl 256, u.oneCell' = true := fun u hu => by
  simp only [tbl, List.mem_map] at hu
  obtain ⟨j, _, rfl⟩ := hu
  rfl
theorem shr1 (m : Nat) : (m : Int).fdiv (2 ^ (min (1 : Int).toNat IntKind.u32.bits)) = ((m / 2 : Nat) : Int) := by
  have : min (1 : Int).toNat IntKind.u32.bits = 1 := rfl
  rw [this, Int.fdiv_eq_ediv_of_nonneg _ (by decide)]; omega
theorem shr8 (m : Nat) : (m : Int).fdiv (2 ^ (min (8 : Int).toNat IntKind.u32.bits)) = ((m / 256 : Nat) : Int) := by
  have : min (8 : Int).toNat IntKind.u32.bits = 8 := rfl
  rw [this, Int.fdiv_eq_ediv_of_nonneg _ (by decide)]; omega
theorem mulp (m : Nat) : IntKind.u32.wrap (3988292384 * ((m % 2 : Nat) : Int)) = ((3988292384 * (m % 2) : Nat) : Int) := by rw [u32w (by omega) (by omega)]; omega
theorem xorp {m : Nat} (hm : m < 4294967296) : bitsOp .xor .u32 ((m / 2 : Nat) : Int) ((3988292384 * (m % 2) : Nat) : Int) = ((cbit m : Nat) : Int) := by
  rw [xor32 (by omega) (by omega)]
  congr 1
  unfold cbit
  congr 1
  split <;> omega
theorem table_c (w : World) :
    Calls Try.prog 66 #[] w fun e w' => e = .returned (.agg (tbl 256).toArray) ∧ Ext w w' := by
  have hE := Ext.refl w
  refine calls_of (l := []) (N := 25) Try.func66 rfl rfl rfl ?_
  refine C_seq (C_region (RL_l rfl (Ld_alloc (v := .agg zeros.toArray) (by kernel_rfl) ?_)))
  intro W1 he1 hz1 hB0
  replace hE := Ext.trans hE he1
  refine RL_nil (X_then (C_seq (C_region (RL_l rfl (Ld_alloc (v := .agg zeros.toArray) (by kernel_rfl) ?_)))))
  intro W2 he2 hz2 hB1
  replace hE := Ext.trans hE he2
  replace hB0 := hB0.ext he2
  refine RL_nil (X_then (C_seq (C_seq (C_region (RL_q rfl (Yd_move rfl) (RL_nil (X_then (C_block (?_)))))))))
  have hB1 : Blk W2 W1.heap.size 91 (tbl 0) := tbl_zero ▸ hB1
  refine C_loop (T := Nat) (fun i => [(0, .pointer (some ⟨w.heap.size, 0, none⟩)), (1, .pointer (some ⟨W1.heap.size, 0, none⟩)), (5, .int .i64 i)]) (fun i w1 => i ≤ 256 ∧ Blk w1 W1.heap.size 91 (tbl i) ∧ Blk w1 w.heap.size 91 zeros ∧ Ext w w1) (fun i => 256 - i) (0) ⟨rfl, rfl, rfl, trivial⟩ ?_ ?_
  · exact ⟨by omega, hB1, hB0, hE⟩
  · rintro i w1 ⟨hi, hB1, hB0, hE⟩
    refine C_seq (C_region (RL_q rfl (Yd_lss rfl rfl) (RL_nil (X_then (C_seq (?_))))))
    refine C_cond rfl (fun hb => ?_) (fun hb => ?_)
    · skip
      have hb : (i : Int) < 256 := of_decide_eq_true hb
      refine C_skip (X_then (C_seq (C_block (C_seq (C_region (RL_q rfl (Yd_move rfl) (RL_q rfl (Yd_assign rfl) (RL_nil (X_then (C_seq (C_region (RL_q rfl (Yd_move rfl) (RL_q rfl (Yd_conv ⟨_, Try.underlying3⟩ Try.underlying82 rfl (u32w (by omega) (by omega))) (RL_q rfl (Yd_assign rfl) (RL_nil (X_then (C_seq (C_seq (C_region (RL_q rfl (Yd_move rfl) (RL_nil (X_then (C_block (?_))))))))))))))))))))))))
      refine C_loop (T := Nat × Nat) (fun ⟨k, m⟩ => [(0, .pointer (some ⟨w.heap.size, 0, none⟩)), (1, .pointer (some ⟨W1.heap.size, 0, none⟩)), (2, .int .i64 i), (3, .int .u32 (m : Int)), (5, .int .i64 i), (10, .int .i64 k)]) (fun ⟨k, m⟩ w2 => k ≤ 8 ∧ m < 4294967296 ∧ cbits (8 - k) m = cbits 8 i ∧ w1 = w2) (fun ⟨k, m⟩ => 8 - k) (⟨0, i⟩) ⟨rfl, rfl, rfl, rfl, rfl, rfl, trivial⟩ ?_ ?_
      · exact ⟨by omega, by omega, rfl, rfl⟩
      · rintro ⟨k, m⟩ w2 ⟨hk, hm, hcb, rfl⟩
        refine C_seq (C_region (RL_q rfl (Yd_lss rfl rfl) (RL_nil (X_then (C_seq (?_))))))
        refine C_cond rfl (fun hb => ?_) (fun hb => ?_)
        · skip
          have hbk : (k : Int) < 8 := of_decide_eq_true hb
          have hcl := cbit_lt hm
          rw [cbits_rest (by omega)] at hcb
          refine C_skip (X_then (C_seq (C_block (C_seq (C_region (RL_q rfl (Yd_move rfl) (RL_q rfl (Yd_and rfl rfl (and1_32 hm)) (RL_q rfl (Yd_assign rfl) (RL_nil (X_then (C_region (RL_q rfl (Yd_move rfl) (RL_q rfl (Yd_shr rfl rfl (by omega) (shr1 m)) (RL_q rfl (Yd_move rfl) (RL_q rfl (Yd_mul rfl rfl (mulp m)) (RL_q rfl (Yd_xor rfl rfl (xorp hm)) (RL_q rfl (Yd_assign rfl) (RL_nil (X_block (X_then (C_region (RL_q rfl (Yd_add rfl rfl (i64w (by omega) (by omega))) (RL_q rfl (Yd_move rfl) (RL_nil (?_)))))))))))))))))))))))))
          refine X_again (⟨k + 1, cbit m⟩) ⟨rfl, rfl, rfl, rfl, rfl, rfl, trivial⟩ ?_ (by first | omega | (dsimp only; omega))
          exact ⟨by omega, hcl, hcb, rfl⟩
        · skip
          have hbk : ¬ (k : Int) < 8 := of_decide_eq_false hb
          obtain rfl : k = 8 := by omega
          obtain rfl : m = cbits 8 i := hcb
          refine C_exit (X_thenE (X_thenE (X_blockE (X_then (C_region (RL_q rfl (Yd_move rfl) (RL_q rfl (Yd_move rfl) (RL_q rfl (Yd_idxAL Try.underlying91 (sz := 1) (by kernel_rfl) rfl rfl (by omega) (by omega)) (RL_l0 (Ld_store (by kernel_rfl) rfl rfl hB1 (by simp [cellsL, Value.cells]; omega) (by simp [cellsL, Value.cells, Value.oneCell']) ?_))))))))))
          intro W3 hu3 hz3 hN
          replace hB0 := hB0.bt hu3 (by omega)
          replace hE := ext_but hE hu3 (by omega)
          rw [tbl_set i _ (by omega) (by omega)] at hN
          refine RL_nil (X_block (X_then (C_region (RL_q rfl (Yd_add rfl rfl (i64w (by omega) (by omega))) (RL_q rfl (Yd_move rfl) (RL_nil (?_)))))))
          refine X_again (i + 1) ⟨rfl, rfl, rfl, trivial⟩ ?_ (by first | omega | (dsimp only; omega))
          exact ⟨by omega, hN, hB0, hE⟩
    · skip
      have hb : ¬ (i : Int) < 256 := of_decide_eq_false hb
      obtain rfl : i = 256 := by omega
      refine C_exit (X_thenE (X_thenE (X_blockE (X_then (C_seq (C_region (RL_q rfl (Yd_loadA Try.underlying91 rfl (by kernel_rfl) rfl (ldBA hB1)) (RL_l0 (Ld_store (by kernel_rfl) rfl rfl hB0 (Nat.le_of_eq (by rw [Nat.zero_add, zeros_len]; exact tbl_len 256)) (fun u hu => tbl_one u (by simpa [cellsL, Value.cells] using hu)) ?_)))))))))
      intro W3 hu3 hz3 hN
      replace hE := ext_but hE hu3 (by omega)
      have hN2 : Blk W3 w.heap.size 91 (tbl 256) := by
        have e : zeros.take 0 ++ cellsL (.agg (tbl 256).toArray) ++ zeros.drop (0 + (cellsL (.agg (tbl 256).toArray)).length) = tbl 256 := by
          have e2 : cellsL (.agg (tbl 256).toArray) = tbl 256 := rfl
          rw [e2, List.take_zero, List.nil_append, List.drop_eq_nil_of_le (by rw [zeros_len, Nat.zero_add, tbl_len]; exact Nat.le_refl _), List.append_nil]
        rw [e] at hN
        exact hN
      refine RL_nil (X_then (C_ret (?_)))
      exact X_retC rfl rfl Try.underlying91 rfl (by kernel_rfl) hN2 ⟨rfl, hE⟩

attribute [irreducible] tbl zeros
theorem tbl_get {j o : Nat} (hj : j < 256) (ho : o = j) : (tbl 256)[o]? = some (.int .u32 ((cbits 8 j : Nat) : Int)) := by
  subst ho
  unfold tbl
  rw [List.getElem?_map, List.getElem?_range hj]
  simp only [Option.map_some, if_pos hj]
theorem cut8 (n : Nat) : IntKind.u8.wrap (n : Int) = ((n % 256 : Nat) : Int) := by rw [u8_wrap]; omega
theorem More_c {B : Nat} (A : Option Addr) (n c sum : Nat) (b : List Int) (w : World) (hr : Rd w B 1 A n (ints .u8 b)) (hn : b.length = n) (hn2 : n ≤ 9223372036854775807) (hy : Byt b) (hs : sum < 4294967296) :
    Calls Try.prog 64 #[.int .u32 (sum : Int), .slice A n c] w fun e w' => e = .returned (.int .u32 (cmore sum b : Int)) ∧ Ext w w' := by
  have hE := Ext.refl w
  refine calls_of (l := [.int .u32 (sum : Int), .slice A n c]) (N := 29) Try.func64 rfl rfl rfl ?_
  refine C_seq (C_region (RL_q rfl (Yd_assign rfl) (RL_nil (X_then (C_seq (C_region (RL_l rfl (Ld_call Try.func66 rfl (by kernel_rfl) rfl (table_c _) ?_))))))))
  rintro e W1 ⟨rfl, he1⟩
  refine ⟨_, rfl, ?_⟩
  replace hE := Ext.trans hE he1
  have hg5 := hE.size
  refine RL_l rfl (Ld_alloc (v := .agg zeros.toArray) (by kernel_rfl) ?_)
  intro W2 he2 hz2 hB5
  replace hE := Ext.trans hE he2
  have hB5 : Blk W2 W1.heap.size 91 zeros := hB5
  refine RL_l0 (Ld_store (by kernel_rfl) rfl rfl hB5 (Nat.le_of_eq (by rw [Nat.zero_add]; exact (tbl_len 256).trans zeros_len.symm)) (fun u hu => tbl_one u (by simpa [cellsL, Value.cells] using hu)) ?_)
  intro W3 hu3 hz3 hN
  replace hE := ext_but hE hu3 hg5
  have hB5 : Blk W3 W1.heap.size 91 (tbl 256) := by
    have e : zeros.take 0 ++ cellsL (.agg (tbl 256).toArray) ++ zeros.drop (0 + (cellsL (.agg (tbl 256).toArray)).length) = tbl 256 := by
      have e2 : cellsL (.agg (tbl 256).toArray) = tbl 256 := rfl
      rw [e2, List.take_zero, List.nil_append, List.drop_eq_nil_of_le (by rw [zeros_len, Nat.zero_add, tbl_len]; exact Nat.le_refl _), List.append_nil]
    rw [e] at hN
    exact hN
  refine RL_nil (X_then (C_seq (C_region (RL_q rfl (Yd_move rfl) (RL_q rfl (Yd_com rfl (com32 hs)) (RL_q rfl (Yd_assign rfl) (RL_nil (X_then (C_seq (C_seq (C_region (RL_q rfl (Yd_move rfl) (RL_q rfl (Yd_len Try.underlying47 rfl) (RL_q rfl (Yd_move rfl) (RL_nil (X_then (C_block (?_))))))))))))))))))
  refine C_loop (T := Nat × Nat) (fun ⟨i, reg⟩ => [(0, .int .u32 (reg : Int)), (5, .pointer (some ⟨W1.heap.size, 0, none⟩)), (11, .slice A n c), (12, .int .i64 n), (13, .int .i64 i)]) (fun ⟨i, reg⟩ w1 => i ≤ n ∧ reg < 4294967296 ∧ creg reg (b.drop i) = creg (4294967295 - sum) b ∧ Blk w1 W1.heap.size 91 (tbl 256) ∧ Ext w w1) (fun ⟨i, reg⟩ => n - i) (⟨0, 4294967295 - sum⟩) ⟨rfl, rfl, rfl, rfl, rfl, trivial⟩ ?_ ?_
  · exact ⟨by omega, by omega, rfl, hB5, hE⟩
  · rintro ⟨i, reg⟩ w1 ⟨hi, hrl, hreg, hB5, hE⟩
    refine C_seq (C_region (RL_q rfl (Yd_lss rfl rfl) (RL_nil (X_then (C_seq (?_))))))
    refine C_cond rfl (fun hb => ?_) (fun hb => ?_)
    · skip
      have hb : (i : Int) < n := of_decide_eq_true hb
      obtain ⟨ad, rfl, _, _⟩ := hr.cells (by omega)
      have hget := ints_get .u8 b i (by omega)
      have hbi := hy.get i (by omega)
      obtain ⟨x, hbx⟩ := Int.eq_ofNat_of_zero_le hbi.1
      have hx8 : x < 256 := by omega
      have hrx : reg ^^^ x < 4294967296 := Nat.xor_lt_two_pow (n := 32) hrl (by omega)
      have hxl : reg % 256 ^^^ x < 256 := Nat.xor_lt_two_pow (n := 8) (by omega) hx8
      have hx22 : bitsOp .xor .u8 ((reg % 256 : Nat) : Int) (b[i]'(by omega)) = ((reg % 256 ^^^ x : Nat) : Int) := by rw [hbx]; exact xor8 (by omega) hx8
      have hx25 : bitsOp .xor .u32 ((reg / 256 : Nat) : Int) ((cbits 8 (reg % 256 ^^^ x) : Nat) : Int) = ((cbits 8 (reg ^^^ x) : Nat) : Int) := by rw [← cstep reg x]; exact xor32 (by omega) (cbits_lt 8 (by omega))
      refine C_skip (X_then (C_seq (C_block (C_seq (C_region (RL_q rfl (Yd_idx Try.underlying47 (sz := 1) (by kernel_rfl) rfl rfl (by omega) (by omega)) (RL_q rfl (Yd_load Try.underlying5 rfl rfl (ldK (hr.ext hE) (by omega) hget (by omega))) (RL_q rfl (Yd_assign rfl) (RL_nil (X_then (C_region (RL_q rfl (Yd_move rfl) (RL_q rfl (Yd_shr rfl rfl (by omega) (shr8 reg)) (RL_q rfl (Yd_move rfl) (RL_q rfl (Yd_conv ⟨_, Try.underlying82⟩ Try.underlying5 rfl (cut8 reg)) (RL_q rfl (Yd_move rfl) (RL_q rfl (Yd_xor rfl rfl hx22) (RL_q rfl (Yd_idxAL Try.underlying91 (sz := 1) (by kernel_rfl) rfl rfl (by omega) (by omega)) (RL_q rfl (Yd_load Try.underlying82 rfl rfl (ldB hB5 (tbl_get (o := 0 + ((reg % 256 ^^^ x : Nat) : Int).toNat * 1) hxl (by omega)))) (RL_q rfl (Yd_xor rfl rfl hx25) (RL_q rfl (Yd_assign rfl) (RL_nil (X_block (X_then (C_region (RL_q rfl (Yd_add rfl rfl (i64w (by omega) (by omega))) (RL_q rfl (Yd_move rfl) (RL_nil (?_)))))))))))))))))))))))))))))
      refine X_again (⟨i + 1, cbits 8 (reg ^^^ x)⟩) ⟨rfl, rfl, rfl, rfl, rfl, trivial⟩ ?_ (by first | omega | (dsimp only; omega))
      refine ⟨by omega, cbits_lt 8 hrx, ?_, hB5, hE⟩
      rw [← hreg, creg_drop _ _ i (by omega), hbx]; rfl
    · skip
      have hb : ¬ (i : Int) < n := of_decide_eq_false hb
      obtain rfl : i = n := by omega
      rw [List.drop_eq_nil_of_le (by omega)] at hreg
      have hreg : reg = creg (4294967295 - sum) b := hreg
      refine C_exit (X_thenE (X_thenE (X_blockE (X_then (C_seq (C_region (RL_q rfl (Yd_move rfl) (RL_q rfl (Yd_com rfl (com32 hrl)) (RL_q rfl (Yd_assign rfl) (RL_nil (X_then (C_ret (X_ret1 rfl rfl ?_)))))))))))))
      refine ⟨congrArg (fun n => Ending.returned (.int .u32 n)) ?_, hE⟩
      rw [cmore, ← hreg]
theorem Sum_c {B : Nat} (A : Option Addr) (n c : Nat) (b : List Int) (w : World) (hr : Rd w B 1 A n (ints .u8 b)) (hn : b.length = n) (hn2 : n ≤ 9223372036854775807) (hy : Byt b) :
    Calls Try.prog 57 #[.slice A n c] w fun e w' => e = .returned (.int .u32 (cmore 0 b : Int)) ∧ Ext w w' := by
  refine calls_of (l := [.slice A n c]) (N := 5) Try.func57 rfl rfl rfl ?_
  refine C_seq (C_region (RL_q rfl (Yd_assign rfl) (RL_nil (X_then (C_seq (C_region (RL_q rfl (Yd_move rfl) (RL_l rfl (Ld_call Try.func64 rfl (by kernel_rfl) rfl (More_c A n c 0 b _ hr hn hn2 hy (by omega)) ?_)))))))))
  rintro e W1 ⟨rfl, he1⟩
  refine ⟨_, rfl, ?_⟩
  refine RL_q rfl (Yd_assign rfl) (RL_nil (X_then (C_ret (X_ret1 rfl rfl ?_))))
  exact ⟨rfl, he1⟩
end Go.Proofs.AL
