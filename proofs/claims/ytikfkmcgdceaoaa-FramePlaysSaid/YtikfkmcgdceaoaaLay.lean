import Derived.Test.YtikfkmcgdceaoaaProg
import Derived.Test.YtikfkmcgdceaoaaBase
set_option linter.unusedVariables false
set_option linter.unusedSimpArgs false
namespace Go.Proofs
theorem Try.elt4 : AL.Elt Try.prog 4 (.bool false) 1 1 := by unfold AL.Elt; kernel_rfl
theorem Try.elt5 : AL.Elt Try.prog 5 (.int .u8 0) 1 1 := by unfold AL.Elt; kernel_rfl
theorem Try.elt25 : AL.Elt Try.prog 25 (.agg #[(.bool false), (.bool false), (.bool false), (.int .i64 0)]) 4 16 := by unfold AL.Elt; kernel_rfl
theorem Try.elt51 : AL.Elt Try.prog 51 (.agg #[(.int .i64 0), (.int .i64 0), (.int .i64 0), (.int .i64 0), (.slice none 0 0)]) 5 56 := by unfold AL.Elt; kernel_rfl
theorem Try.elt79 : AL.Elt Try.prog 79 (.agg #[(.bool false), (.bool false), (.bool false), (.int .i64 0)]) 4 16 := by unfold AL.Elt; kernel_rfl
theorem Try.bld24 : AL.Bld Try.prog 24 [(.bool false), (.bool false), (.bool false), (.int .i64 0)] [(0, 1), (1, 1), (2, 1), (3, 1)] := by unfold AL.Bld; kernel_rfl
theorem Try.bld25 : AL.Bld Try.prog 25 [(.bool false), (.bool false), (.bool false), (.int .i64 0)] [(0, 1), (1, 1), (2, 1), (3, 1)] := by unfold AL.Bld; kernel_rfl
theorem Try.bld26 : AL.Bld Try.prog 26 [(.int .u8 0), (.int .u8 0), (.int .u8 0), (.int .u8 0), (.int .u8 0), (.int .u8 0), (.int .u8 0), (.int .u8 0), (.int .u8 0), (.int .u8 0), (.int .u8 0), (.int .u8 0), (.int .u8 0), (.int .u8 0), (.int .u8 0), (.int .u8 0), (.int .u8 0), (.int .u8 0), (.int .u8 0), (.int .u8 0), (.int .u8 0), (.int .u8 0), (.int .u8 0), (.int .u8 0), (.int .u8 0), (.int .u8 0), (.int .u8 0), (.int .u8 0), (.int .u8 0), (.int .u8 0), (.int .u8 0), (.int .u8 0)] [(0, 1), (1, 1), (2, 1), (3, 1), (4, 1), (5, 1), (6, 1), (7, 1), (8, 1), (9, 1), (10, 1), (11, 1), (12, 1), (13, 1), (14, 1), (15, 1), (16, 1), (17, 1), (18, 1), (19, 1), (20, 1), (21, 1), (22, 1), (23, 1), (24, 1), (25, 1), (26, 1), (27, 1), (28, 1), (29, 1), (30, 1), (31, 1)] := by unfold AL.Bld; kernel_rfl
theorem Try.bld27 : AL.Bld Try.prog 27 [(.bool false), (.bool false), (.bool false), (.int .i64 0), (.int .i64 0), (.int .u8 0), (.int .u8 0), (.int .u8 0), (.int .u8 0), (.int .u8 0), (.int .u8 0), (.int .u8 0), (.int .u8 0), (.int .u8 0), (.int .u8 0), (.int .u8 0), (.int .u8 0), (.int .u8 0), (.int .u8 0), (.int .u8 0), (.int .u8 0), (.int .u8 0), (.int .u8 0), (.int .u8 0), (.int .u8 0), (.int .u8 0), (.int .u8 0), (.int .u8 0), (.int .u8 0), (.int .u8 0), (.int .u8 0), (.int .u8 0), (.int .u8 0), (.int .u8 0), (.int .u8 0), (.int .u8 0), (.int .u8 0)] [(0, 4), (4, 1), (5, 32)] := by unfold AL.Bld; kernel_rfl
theorem Try.bld28 : AL.Bld Try.prog 28 [(.bool false), (.bool false), (.bool false), (.int .i64 0), (.int .i64 0), (.int .u8 0), (.int .u8 0), (.int .u8 0), (.int .u8 0), (.int .u8 0), (.int .u8 0), (.int .u8 0), (.int .u8 0), (.int .u8 0), (.int .u8 0), (.int .u8 0), (.int .u8 0), (.int .u8 0), (.int .u8 0), (.int .u8 0), (.int .u8 0), (.int .u8 0), (.int .u8 0), (.int .u8 0), (.int .u8 0), (.int .u8 0), (.int .u8 0), (.int .u8 0), (.int .u8 0), (.int .u8 0), (.int .u8 0), (.int .u8 0), (.int .u8 0), (.int .u8 0), (.int .u8 0), (.int .u8 0), (.int .u8 0)] [(0, 4), (4, 1), (5, 32)] := by unfold AL.Bld; kernel_rfl
theorem Try.bld42 : AL.Bld Try.prog 42 [(.bool false), (.bool false), (.bool false), (.int .i64 0), (.int .i64 0), (.string ⟨#[]⟩)] [(0, 1), (1, 1), (2, 1), (3, 1), (4, 1), (5, 1)] := by unfold AL.Bld; kernel_rfl
theorem Try.bld43 : AL.Bld Try.prog 43 [(.bool false), (.bool false), (.bool false), (.int .i64 0), (.int .i64 0), (.string ⟨#[]⟩)] [(0, 1), (1, 1), (2, 1), (3, 1), (4, 1), (5, 1)] := by unfold AL.Bld; kernel_rfl
theorem Try.bld50 : AL.Bld Try.prog 50 [(.int .i64 0), (.int .i64 0), (.int .i64 0), (.int .i64 0), (.slice none 0 0)] [(0, 1), (1, 1), (2, 1), (3, 1), (4, 1)] := by unfold AL.Bld; kernel_rfl
theorem Try.bld51 : AL.Bld Try.prog 51 [(.int .i64 0), (.int .i64 0), (.int .i64 0), (.int .i64 0), (.slice none 0 0)] [(0, 1), (1, 1), (2, 1), (3, 1), (4, 1)] := by unfold AL.Bld; kernel_rfl
theorem Try.bld68 : AL.Bld Try.prog 68 [(.int .i64 0), (.int .i64 0), (.slice none 0 0), (.int .i64 0)] [(0, 1), (1, 1), (2, 1), (3, 1)] := by unfold AL.Bld; kernel_rfl
theorem Try.bld69 : AL.Bld Try.prog 69 [(.int .i64 0), (.int .i64 0), (.slice none 0 0), (.int .i64 0)] [(0, 1), (1, 1), (2, 1), (3, 1)] := by unfold AL.Bld; kernel_rfl
theorem Try.bld79 : AL.Bld Try.prog 79 [(.bool false), (.bool false), (.bool false), (.int .i64 0)] [(0, 1), (1, 1), (2, 1), (3, 1)] := by unfold AL.Bld; kernel_rfl
end Go.Proofs
namespace Go.Proofs.AL
open Go.RowKit

def around (n m : Int) : Int := if n < 0 then (-(n + 1)) % m else n % m
theorem around_neg {n m : Int} (h : n < 0) : around n m = (-(n + 1)) % m := if_pos h
theorem around_pos {n m : Int} (h : ¬ n < 0) : around n m = n % m := if_neg h
theorem around_range (n : Int) {m : Int} (h : 1 ≤ m) : 0 ≤ around n m ∧ around n m < m := by
  unfold around
  split
  · exact ⟨Int.emod_nonneg _ (by omega), Int.emod_lt_of_pos _ (by omega)⟩
  · exact ⟨Int.emod_nonneg _ (by omega), Int.emod_lt_of_pos _ (by omega)⟩
theorem bytes_self (b : ByteArray) : (b.toList == b.toList) = true := by simp
/-- bytes -/
def Byt (bs : List Int) : Prop := ∀ b ∈ bs, 0 ≤ b ∧ b ≤ 255
theorem Byt.nil : Byt [] := fun b h => by cases h
theorem Byt.append {a b : List Int} (h : Byt a) (k : Byt b) : Byt (a ++ b) := fun x hx => (List.mem_append.1 hx).elim (h x) (k x)
theorem Byt.take {a : List Int} (h : Byt a) (n : Nat) : Byt (a.take n) := fun x hx => h x (List.mem_of_mem_take hx)
theorem Byt.drop {a : List Int} (h : Byt a) (n : Nat) : Byt (a.drop n) := fun x hx => h x (List.mem_of_mem_drop hx)
theorem Byt.get {a : List Int} (h : Byt a) (i : Nat) (hi : i < a.length) : 0 ≤ a[i] ∧ a[i] ≤ 255 := h _ (List.getElem_mem hi)
theorem Byt.set {a : List Int} (h : Byt a) (i : Nat) {c : Int} (h0 : 0 ≤ c) (h1 : c ≤ 255) : Byt (a.set i c) := fun x hx => by
  rcases List.mem_or_eq_of_mem_set hx with hx | rfl
  · exact h x hx
  · exact ⟨h0, h1⟩
/-- the k lowest bytes of a number -/
def le (k : Nat) (n : Int) : List Int := (List.range k).map fun i => n / 256 ^ i % 256
theorem le_succ (k : Nat) (n : Int) : le (k + 1) n = le k n ++ [n / 256 ^ k % 256] := by simp [le, List.range_succ]
@[simp] theorem le_len (k : Nat) (n : Int) : (le k n).length = k := by simp [le]
theorem le_byt (k : Nat) (n : Int) : Byt (le k n) := fun b hb => by
  simp only [le, List.mem_map] at hb
  obtain ⟨i, _, rfl⟩ := hb
  omega
theorem le_div (n : Int) (k : Nat) : n / 256 ^ k / 256 = n / 256 ^ (k + 1) := by rw [Int.ediv_ediv_of_nonneg (by exact Int.pow_nonneg (by decide)), Int.pow_succ]
theorem u64_wrap (n : Int) : IntKind.u64.wrap n = n % 18446744073709551616 := by simp [IntKind.wrap, IntKind.bits, IntKind.signed]
theorem u64_range (n : Int) : 0 ≤ IntKind.u64.wrap n ∧ IntKind.u64.wrap n ≤ 18446744073709551615 := by rw [u64_wrap]; omega
theorem i64_wrap_u64 (n : Int) (h1 : -9223372036854775808 ≤ n) (h2 : n ≤ 9223372036854775807) : IntKind.i64.wrap (IntKind.u64.wrap n) = n := by
  rw [u64_wrap, IntKind.wrap_i64]; omega
theorem i64_range (n : Int) : -9223372036854775808 ≤ IntKind.i64.wrap n ∧ IntKind.i64.wrap n ≤ 9223372036854775807 := by rw [IntKind.wrap_i64]; omega
theorem u64_wrap_i64 (n : Int) (h1 : 0 ≤ n) (h2 : n ≤ 18446744073709551615) : IntKind.u64.wrap (IntKind.i64.wrap n) = n := by
  rw [u64_wrap, IntKind.wrap_i64]; omega
theorem u8_wrap (n : Int) : IntKind.u8.wrap n = n % 256 := IntKind.wrap_u8 n
/-- eight bytes of a number -/
def le8 (n : Int) : List Int := le 8 (IntKind.u64.wrap n)
@[simp] theorem le8_len (n : Int) : (le8 n).length = 8 := le_len _ _
theorem le8_byt (n : Int) : Byt (le8 n) := le_byt _ _
theorem le8_u64 {n : Int} (h1 : 0 ≤ n) (h2 : n ≤ 18446744073709551615) : le8 n = le 8 n := by rw [le8, u64w h1 h2]
/-- numbers, one behind the other -/
def le8s (l : List Int) : List Int := l.flatMap le8
theorem le8s_len (l : List Int) : (le8s l).length = 8 * l.length := by
  induction l with
  | nil => rfl
  | cons a l ih => simp [le8s] at ih ⊢; omega
theorem le8s_append (a b : List Int) : le8s (a ++ b) = le8s a ++ le8s b := by simp [le8s]
theorem le8s_byt (l : List Int) : Byt (le8s l) := fun b hb => by
  simp only [le8s, List.mem_flatMap] at hb
  obtain ⟨n, _, h⟩ := hb
  exact le8_byt n b h
theorem shr_byte (n : Int) (k : Nat) (_hk : k < 8) : IntKind.u8.wrap (n.fdiv (2 ^ (min (8 * (k : Int)).toNat IntKind.u64.bits))) = n / 256 ^ k % 256 := by
  have h1 : min (8 * (k : Int)).toNat IntKind.u64.bits = 8 * k := by simp [IntKind.bits]; omega
  rw [h1, u8_wrap, Int.fdiv_eq_ediv_of_nonneg _ (by exact Int.pow_nonneg (by decide)), Int.pow_mul]
  rfl
/-- the first so many -/
def few (bs : List Int) (m : Int) : List Int := bs.take m.toNat
theorem few_len (bs : List Int) (m : Int) (h : 0 ≤ m) : (if m < (bs.length : Int) then m else (bs.length : Int)) = ((few bs m).length : Int) := by
  simp only [few, List.length_take]
  split <;> omega
theorem few_le (bs : List Int) (m : Int) (h : 0 ≤ m) : ((few bs m).length : Int) ≤ m ∧ (few bs m).length ≤ bs.length := by
  simp only [few, List.length_take]; omega
theorem few_byt {bs : List Int} (h : Byt bs) (m : Int) : Byt (few bs m) := h.take _
theorem few_all {bs : List Int} {m : Int} (h : (bs.length : Int) ≤ m) : few bs m = bs := List.take_of_length_le (by omega)
theorem str_dec {a b : List Int} (ha : Byt a) (hb : Byt b) : ((strOfNums a).toList == (strOfNums b).toList) = decide (a = b) := by
  by_cases h : a = b
  · rw [decide_eq_true h]; exact str_eq h
  · rw [decide_eq_false h]; exact str_ne ha hb h
/-- bytes of a text: their number ahead -/
def text (bs : List Int) : List Int := le8 bs.length ++ bs
theorem Around_c (n m : Int) (w : World) (h1 : -9223372036854775808 ≤ n) (h2 : n ≤ 9223372036854775807) (h3 : 1 ≤ m) (h4 : m ≤ 9223372036854775807) :
    Calls Try.prog 15 #[.int .i64 n, .int .i64 m] w fun e w' => e = .returned (.int .i64 (around n m)) ∧ w = w' := by
  refine calls_of (l := [.int .i64 n, .int .i64 m]) (N := 13) Try.func15 rfl rfl rfl ?_
  refine C_seq (C_region (RL_q rfl (Yd_assign rfl) (RL_nil (X_then (C_seq (C_seq (C_region (RL_q rfl (Yd_move rfl) (RL_q rfl (Yd_lss rfl rfl) (RL_nil (X_then (?_))))))))))))
  refine C_cond rfl (fun hb => ?_) (fun hb => ?_)
  · skip
    have hb : n < 0 := of_decide_eq_true hb
    refine C_region (RL_q rfl (Yd_move rfl) (RL_q rfl (Yd_add rfl rfl (i64w (by omega) (by omega))) (RL_q rfl (Yd_neg rfl (i64w (by omega) (by omega))) (RL_q rfl (Yd_assign rfl) (RL_nil (X_then (C_seq (C_region (RL_q rfl (Yd_move rfl) (RL_q rfl (Yd_move rfl) (RL_q rfl (Yd_rem rfl rfl (by omega) (tmodw (by omega))) (RL_q rfl (Yd_assign rfl) (RL_nil (X_then (C_ret (X_ret1 rfl rfl ?_))))))))))))))))
    exact ⟨by rw [around_neg hb], rfl⟩
  · skip
    have hb : ¬ n < 0 := of_decide_eq_false hb
    refine C_skip (X_then (C_seq (C_region (RL_q rfl (Yd_move rfl) (RL_q rfl (Yd_move rfl) (RL_q rfl (Yd_rem rfl rfl (by omega) (tmodw (by omega))) (RL_q rfl (Yd_assign rfl) (RL_nil (X_then (C_ret (X_ret1 rfl rfl ?_)))))))))))
    exact ⟨by rw [around_pos hb], rfl⟩
theorem Few_c {B : Nat} (A : Option Addr) (n c : Nat) (bs : List Int) (m : Int) (w : World) (hr : Rd w B 1 A n (ints .u8 bs)) (hn : bs.length = n) (hc : n ≤ c) (hm : 0 ≤ m) (hm2 : m ≤ 65536) (hnil : A = none → c = 0) :
    Calls Try.prog 22 #[.slice A n c, .int .i64 m] w fun e w' => ∃ A' c', e = .returned (.slice A' (few bs m).length c') ∧ Own w' w.heap.size 5 1 A' (few bs m).length c' (ints .u8 (few bs m)) ∧ Ext w w' := by
  have hm3 := few_len bs m hm
  have hm4 := few_le bs m hm
  rw [hn] at hm3 hm4
  refine calls_of (l := [.slice A n c, .int .i64 m]) (N := 14) Try.func22 rfl rfl rfl ?_
  refine C_seq (C_region (RL_q rfl (Yd_assign rfl) (RL_nil (X_then (C_seq (C_region (RL_q rfl (Yd_assign rfl) (RL_nil (X_then (C_seq (C_region (RL_q rfl (Yd_move rfl) (RL_q rfl (Yd_move rfl) (RL_q rfl (Yd_move rfl) (RL_q rfl (Yd_len Try.underlying32 rfl) (RL_q rfl (Yd_move rfl) (RL_q rfl (Yd_minw rfl rfl hm3) (RL_q rfl (Yd_sliceH Try.underlying32 (sz := 1) (by kernel_rfl) rfl rfl (by omega) (by omega)) (?_)))))))))))))))))))
  have hcut : Rd w B 1 A (few bs m).length (ints .u8 (few bs m)) := by
    have := hr.cut (k := 0) (m := (few bs m).length) (cap := (few bs m).length + 1) (by omega) hm4.2 (by omega)
    rw [if_neg (by omega)] at this
    simp only [Nat.sub_zero, Nat.mul_one, List.drop_zero, ints_take, add_zero', Option.map_id_fun', id] at this
    rwa [show bs.take (few bs m).length = few bs m from by simp [few]] at this
  refine RL_l rfl (Ld_app Try.underlying32 Try.elt5 rfl (by decide) rfl rfl (Own.nil w w.heap.size 5 1) (m := (few bs m).length) hcut (ints_one _ _) (by simp only [maxLen]; omega) (by omega) (Nat.le_refl _) hnil (Nat.zero_add _) ?_)
  intro A2 c2 W1 hO2 hg1 hat1
  have he1 := ext_app (Own.nil w w.heap.size 5 1) (Below.refl _ _) (Nat.le_refl _) hg1
  refine RL_q rfl (Yd_assign rfl) (RL_nil (X_then (C_ret (X_ret1 rfl rfl ?_))))
  exact ⟨A2, c2, rfl, hO2, he1⟩
end Go.Proofs.AL
