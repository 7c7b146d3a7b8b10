import Derived.Test.YtfckeecfppmepaaProg
import Derived.Test.YtfckeecfppmepaaBase
set_option linter.unusedVariables false
set_option linter.unusedSimpArgs false
namespace Go.Proofs
theorem Try.elt3 : AL.Elt Try.prog 3 (.int .i64 0) 1 8 := by unfold AL.Elt; kernel_rfl
theorem Try.elt5 : AL.Elt Try.prog 5 (.int .u8 0) 1 1 := by unfold AL.Elt; kernel_rfl
theorem Try.elt9 : AL.Elt Try.prog 9 (.string ⟨#[]⟩) 1 16 := by unfold AL.Elt; kernel_rfl
theorem Try.elt24 : AL.Elt Try.prog 24 (.slice none 0 0) 1 24 := by unfold AL.Elt; kernel_rfl
theorem Try.elt47 : AL.Elt Try.prog 47 (.agg #[(.int .i64 0), (.int .i64 0)]) 2 16 := by unfold AL.Elt; kernel_rfl
theorem Try.elt53 : AL.Elt Try.prog 53 (.agg #[(.int .i64 0), (.int .i64 0), (.int .i64 0), (.int .i64 0), (.slice none 0 0)]) 5 56 := by unfold AL.Elt; kernel_rfl
theorem Try.bld37 : AL.Bld Try.prog 37 [(.slice none 0 0), (.int .i64 0), (.bool false)] [(0, 1), (1, 1), (2, 1)] := by unfold AL.Bld; kernel_rfl
theorem Try.bld38 : AL.Bld Try.prog 38 [(.slice none 0 0), (.int .i64 0), (.bool false)] [(0, 1), (1, 1), (2, 1)] := by unfold AL.Bld; kernel_rfl
theorem Try.bld47 : AL.Bld Try.prog 47 [(.int .i64 0), (.int .i64 0)] [(0, 1), (1, 1)] := by unfold AL.Bld; kernel_rfl
theorem Try.bld52 : AL.Bld Try.prog 52 [(.int .i64 0), (.int .i64 0), (.int .i64 0), (.int .i64 0), (.slice none 0 0)] [(0, 1), (1, 1), (2, 1), (3, 1), (4, 1)] := by unfold AL.Bld; kernel_rfl
theorem Try.bld53 : AL.Bld Try.prog 53 [(.int .i64 0), (.int .i64 0), (.int .i64 0), (.int .i64 0), (.slice none 0 0)] [(0, 1), (1, 1), (2, 1), (3, 1), (4, 1)] := by unfold AL.Bld; kernel_rfl
theorem Try.bld64 : AL.Bld Try.prog 64 [(.int .i64 0), (.int .i64 0)] [(0, 1), (1, 1)] := by unfold AL.Bld; kernel_rfl
theorem Try.bld65 : AL.Bld Try.prog 65 [(.int .i64 0), (.int .i64 0)] [(0, 1), (1, 1)] := by unfold AL.Bld; kernel_rfl
theorem Try.bld69 : AL.Bld Try.prog 69 [(.int .i64 0), (.int .i64 0), (.int .i64 0), (.int .i64 0), (.int .i64 0), (.int .i64 0), (.slice none 0 0), (.int .i64 0)] [(0, 2), (2, 5), (7, 1)] := by unfold AL.Bld; kernel_rfl
theorem Try.bld70 : AL.Bld Try.prog 70 [(.int .i64 0), (.int .i64 0), (.int .i64 0), (.int .i64 0), (.int .i64 0), (.int .i64 0), (.slice none 0 0), (.int .i64 0)] [(0, 2), (2, 5), (7, 1)] := by unfold AL.Bld; kernel_rfl
theorem Try.bld74 : AL.Bld Try.prog 74 [(.slice none 0 0), (.bool false)] [(0, 1), (1, 1)] := by unfold AL.Bld; kernel_rfl
theorem Try.bld75 : AL.Bld Try.prog 75 [(.slice none 0 0), (.bool false)] [(0, 1), (1, 1)] := by unfold AL.Bld; kernel_rfl
theorem Try.bld76 : AL.Bld Try.prog 76 [.nilFunc, .nilFunc, .nilFunc, .nilFunc, .nilFunc, .nilFunc, .nilFunc, .nilFunc, .nilFunc] [(0, 1), (1, 1), (2, 1), (3, 1), (4, 1), (5, 1), (6, 1), (7, 1), (8, 1)] := by unfold AL.Bld; kernel_rfl
theorem Try.bld78 : AL.Bld Try.prog 78 [(.string ⟨#[]⟩), (.string ⟨#[]⟩), (.string ⟨#[]⟩), (.string ⟨#[]⟩), (.string ⟨#[]⟩), (.string ⟨#[]⟩), (.string ⟨#[]⟩), (.string ⟨#[]⟩), (.string ⟨#[]⟩)] [(0, 1), (1, 1), (2, 1), (3, 1), (4, 1), (5, 1), (6, 1), (7, 1), (8, 1)] := by unfold AL.Bld; kernel_rfl
end Go.Proofs
namespace Go.Proofs.AL
open Go.RowKit

def around (n m : Int) : Int := if n < 0 then (-(n + 1)) % m else n % m
theorem around_neg {n m : Int} (h : n < 0) : around n m = (-(n + 1)) % m := if_pos h
theorem around_pos {n m : Int} (h : ¬ n < 0) : around n m = n % m := if_neg h
theorem around_range (n : Int) {m : Int} (h : 1 ≤ m) : 0 ≤ around n m ∧ around n m < m := by
  unfold around
  split
  · exact ⟨Int.emod_nonneg _ (by omega), Int.emod_lt_of_pos _ (by omega)⟩
  · exact ⟨Int.emod_nonneg _ (by omega), Int.emod_lt_of_pos _ (by omega)⟩
theorem bytes_self (b : ByteArray) : (b.toList == b.toList) = true := by simp
/-- bytes -/
def Byt (bs : List Int) : Prop := ∀ b ∈ bs, 0 ≤ b ∧ b ≤ 255
theorem Byt.nil : Byt [] := fun b h => by cases h
theorem Byt.append {a b : List Int} (h : Byt a) (k : Byt b) : Byt (a ++ b) := fun x hx => (List.mem_append.1 hx).elim (h x) (k x)
theorem Byt.take {a : List Int} (h : Byt a) (n : Nat) : Byt (a.take n) := fun x hx => h x (List.mem_of_mem_take hx)
theorem Byt.drop {a : List Int} (h : Byt a) (n : Nat) : Byt (a.drop n) := fun x hx => h x (List.mem_of_mem_drop hx)
theorem Byt.get {a : List Int} (h : Byt a) (i : Nat) (hi : i < a.length) : 0 ≤ a[i] ∧ a[i] ≤ 255 := h _ (List.getElem_mem hi)
theorem Byt.set {a : List Int} (h : Byt a) (i : Nat) {c : Int} (h0 : 0 ≤ c) (h1 : c ≤ 255) : Byt (a.set i c) := fun x hx => by
  rcases List.mem_or_eq_of_mem_set hx with hx | rfl
  · exact h x hx
  · exact ⟨h0, h1⟩
/-- the k lowest bytes of a number -/
def le (k : Nat) (n : Int) : List Int := (List.range k).map fun i => n / 256 ^ i % 256
theorem le_succ (k : Nat) (n : Int) : le (k + 1) n = le k n ++ [n / 256 ^ k % 256] := by simp [le, List.range_succ]
@[simp] theorem le_len (k : Nat) (n : Int) : (le k n).length = k := by simp [le]
theorem le_byt (k : Nat) (n : Int) : Byt (le k n) := fun b hb => by
  simp only [le, List.mem_map] at hb
  obtain ⟨i, _, rfl⟩ := hb
  omega
theorem le_div (n : Int) (k : Nat) : n / 256 ^ k / 256 = n / 256 ^ (k + 1) := by rw [Int.ediv_ediv_of_nonneg (by exact Int.pow_nonneg (by decide)), Int.pow_succ]
theorem u64_wrap (n : Int) : IntKind.u64.wrap n = n % 18446744073709551616 := by simp [IntKind.wrap, IntKind.bits, IntKind.signed]
theorem u64_range (n : Int) : 0 ≤ IntKind.u64.wrap n ∧ IntKind.u64.wrap n ≤ 18446744073709551615 := by rw [u64_wrap]; omega
theorem i64_wrap_u64 (n : Int) (h1 : -9223372036854775808 ≤ n) (h2 : n ≤ 9223372036854775807) : IntKind.i64.wrap (IntKind.u64.wrap n) = n := by
  rw [u64_wrap, IntKind.wrap_i64]; omega
theorem i64_range (n : Int) : -9223372036854775808 ≤ IntKind.i64.wrap n ∧ IntKind.i64.wrap n ≤ 9223372036854775807 := by rw [IntKind.wrap_i64]; omega
theorem u64_wrap_i64 (n : Int) (h1 : 0 ≤ n) (h2 : n ≤ 18446744073709551615) : IntKind.u64.wrap (IntKind.i64.wrap n) = n := by
  rw [u64_wrap, IntKind.wrap_i64]; omega
theorem u8_wrap (n : Int) : IntKind.u8.wrap n = n % 256 := IntKind.wrap_u8 n
/-- eight bytes of a number -/
def le8 (n : Int) : List Int := le 8 (IntKind.u64.wrap n)
@[simp] theorem le8_len (n : Int) : (le8 n).length = 8 := le_len _ _
theorem le8_byt (n : Int) : Byt (le8 n) := le_byt _ _
theorem le8_u64 {n : Int} (h1 : 0 ≤ n) (h2 : n ≤ 18446744073709551615) : le8 n = le 8 n := by rw [le8, u64w h1 h2]
/-- numbers, one behind the other -/
def le8s (l : List Int) : List Int := l.flatMap le8
theorem le8s_len (l : List Int) : (le8s l).length = 8 * l.length := by
  induction l with
  | nil => rfl
  | cons a l ih => simp [le8s] at ih ⊢; omega
theorem le8s_append (a b : List Int) : le8s (a ++ b) = le8s a ++ le8s b := by simp [le8s]
theorem le8s_byt (l : List Int) : Byt (le8s l) := fun b hb => by
  simp only [le8s, List.mem_flatMap] at hb
  obtain ⟨n, _, h⟩ := hb
  exact le8_byt n b h
theorem shr_byte (n : Int) (k : Nat) (_hk : k < 8) : IntKind.u8.wrap (n.fdiv (2 ^ (min (8 * (k : Int)).toNat IntKind.u64.bits))) = n / 256 ^ k % 256 := by
  have h1 : min (8 * (k : Int)).toNat IntKind.u64.bits = 8 * k := by simp [IntKind.bits]; omega
  rw [h1, u8_wrap, Int.fdiv_eq_ediv_of_nonneg _ (by exact Int.pow_nonneg (by decide)), Int.pow_mul]
  rfl
/-- the first so many -/
def few (bs : List Int) (m : Int) : List Int := bs.take m.toNat
theorem few_len (bs : List Int) (m : Int) (h : 0 ≤ m) : (if m < (bs.length : Int) then m else (bs.length : Int)) = ((few bs m).length : Int) := by
  simp only [few, List.length_take]
  split <;> omega
theorem few_le (bs : List Int) (m : Int) (h : 0 ≤ m) : ((few bs m).length : Int) ≤ m ∧ (few bs m).length ≤ bs.length := by
  simp only [few, List.length_take]; omega
theorem few_byt {bs : List Int} (h : Byt bs) (m : Int) : Byt (few bs m) := h.take _
theorem few_all {bs : List Int} {m : Int} (h : (bs.length : Int) ≤ m) : few bs m = bs := List.take_of_length_le (by omega)
theorem str_dec {a b : List Int} (ha : Byt a) (hb : Byt b) : ((strOfNums a).toList == (strOfNums b).toList) = decide (a = b) := by
  by_cases h : a = b
  · rw [decide_eq_true h]; exact str_eq h
  · rw [decide_eq_false h]; exact str_ne ha hb h
/-- bytes of a text: their number ahead -/
def text (bs : List Int) : List Int := le8 bs.length ++ bs
theorem Around_c (n m : Int) (w : World) (h1 : -9223372036854775808 ≤ n) (h2 : n ≤ 9223372036854775807) (h3 : 1 ≤ m) (h4 : m ≤ 9223372036854775807) :
    Calls Try.prog 14 #[.int .i64 n, .int .i64 m] w fun e w' => e = .returned (.int .i64 (around n m)) ∧ w = w' := by
  refine calls_of (l := [.int .i64 n, .int .i64 m]) (N := 13) Try.func14 rfl rfl rfl ?_
  refine C_seq (C_region (RL_q rfl (Yd_assign rfl) (RL_nil (X_then (C_seq (C_seq (C_region (RL_q rfl (Yd_move rfl) (RL_q rfl (Yd_lss rfl rfl) (RL_nil (X_then (?_))))))))))))
  refine C_cond rfl (fun hb => ?_) (fun hb => ?_)
  · skip
    have hb : n < 0 := of_decide_eq_true hb
    refine C_region (RL_q rfl (Yd_move rfl) (RL_q rfl (Yd_add rfl rfl (i64w (by omega) (by omega))) (RL_q rfl (Yd_neg rfl (i64w (by omega) (by omega))) (RL_q rfl (Yd_assign rfl) (RL_nil (X_then (C_seq (C_region (RL_q rfl (Yd_move rfl) (RL_q rfl (Yd_move rfl) (RL_q rfl (Yd_rem rfl rfl (by omega) (tmodw (by omega))) (RL_q rfl (Yd_assign rfl) (RL_nil (X_then (C_ret (X_ret1 rfl rfl ?_))))))))))))))))
    exact ⟨by rw [around_neg hb], rfl⟩
  · skip
    have hb : ¬ n < 0 := of_decide_eq_false hb
    refine C_skip (X_then (C_seq (C_region (RL_q rfl (Yd_move rfl) (RL_q rfl (Yd_move rfl) (RL_q rfl (Yd_rem rfl rfl (by omega) (tmodw (by omega))) (RL_q rfl (Yd_assign rfl) (RL_nil (X_then (C_ret (X_ret1 rfl rfl ?_)))))))))))
    exact ⟨by rw [around_pos hb], rfl⟩
theorem refUint_c (n : Int) (w : World) (h1 : 0 ≤ n) (h2 : n ≤ 18446744073709551615) :
    Calls Try.prog 21 #[.int .u64 n] w fun e w' => ∃ A c, e = .returned (.slice A 8 c) ∧ Own w' w.heap.size 5 1 A 8 c (ints .u8 (le 8 n)) ∧ Ext w w' := by
  refine calls_of (l := [.int .u64 n]) (N := 18) Try.func21 rfl rfl rfl ?_
  refine C_seq (C_region (RL_q rfl (Yd_assign rfl) (RL_nil (X_then (C_seq (C_region (RL_q rfl (Yd_assign rfl) (RL_nil (X_then (C_seq (C_seq (C_region (RL_q rfl (Yd_assign rfl) (RL_nil (X_then (C_block (?_)))))))))))))))))
  refine C_loop (T := Nat × Option Addr × Nat × Int) (fun ⟨k, A, c, q⟩ => [(0, .int .u64 q), (3, .slice A k c), (4, .int .i64 k)]) (fun ⟨k, A, c, q⟩ w1 => k ≤ 8 ∧ q = n / 256 ^ k ∧ 0 ≤ q ∧ q ≤ 18446744073709551615 ∧ Own w1 w.heap.size 5 1 A k c (ints .u8 (le k n)) ∧ Ext w w1) (fun ⟨k, A, c, q⟩ => 8 - k) (⟨0, none, 0, n⟩) ⟨rfl, rfl, rfl, trivial⟩ ?_ ?_
  · exact ⟨by omega, by simp, h1, h2, Own.nil _ _ _ _, Ext.refl _⟩
  · rintro ⟨k, A, c, q⟩ w1 ⟨hk, hq, h3, h4, hO, hE⟩
    refine C_seq (C_seq (C_region (RL_q rfl (Yd_move rfl) (RL_q rfl (Yd_lss rfl rfl) (RL_nil (X_then (?_)))))))
    refine C_cond rfl (fun hb => ?_) (fun hb => ?_)
    · skip
      have hb : (k : Int) < 8 := of_decide_eq_true hb
      refine C_skip (X_then (C_seq (C_block (C_seq (C_region (RL_q rfl (Yd_move rfl) (RL_q rfl (Yd_move rfl) (RL_q rfl (Yd_rem rfl rfl (by decide) (tmodw (by omega))) (RL_q rfl (Yd_conv ⟨_, Try.underlying28⟩ Try.underlying5 rfl (u8w (by omega) (by omega))) (RL_l rfl (Ld_lit Try.underlying24 rfl (lit_flat Try.underlying24 Try.elt5 rfl rfl ⟨rfl, by decide⟩) ?_)))))))))))
      intro W1 he1 hz1 hB
      replace hO := hO.ext he1
      replace hE := Ext.trans hE he1
      have hsz := hE.size
      refine RL_l rfl (Ld_app Try.underlying24 Try.elt5 rfl (by decide) rfl rfl hO (Blk.one hB) (by simp [Value.oneCell']) (by simp only [maxLen]; omega) (by omega) hE.size (by intro h; cases h) rfl ?_)
      intro A2 c2 W2 hO2 hg2 hat2
      have hE2 := ext_app hO hE hE.size hg2
      refine RL_q rfl (Yd_assign rfl) (RL_nil (X_then (C_region (RL_q rfl (Yd_move rfl) (RL_q rfl (Yd_quo rfl rfl (by omega) (tdivU (by omega) (by omega) (by omega))) (RL_q rfl (Yd_assign rfl) (RL_nil (X_block (X_then (C_region (RL_q rfl (Yd_move rfl) (RL_q rfl (Yd_add rfl rfl (i64w (by omega) (by omega))) (RL_q rfl (Yd_assign rfl) (RL_nil (?_)))))))))))))))
      refine X_again (⟨k + 1, A2, c2, q / 256⟩) ⟨rfl, rfl, rfl, trivial⟩ ?_ (by first | omega | (dsimp only; omega))
      refine ⟨by omega, by rw [hq, le_div], by omega, by omega, ?_, hE2⟩
      rw [le_succ, ints_append, ← hq]
      exact hO2
    · skip
      have hb : ¬ (k : Int) < 8 := of_decide_eq_false hb
      obtain rfl : k = 8 := by omega
      refine C_exit (X_thenE (X_thenE (X_blockE (X_then (C_seq (C_region (RL_q rfl (Yd_move rfl) (RL_q rfl (Yd_assign rfl) (RL_nil (X_then (C_ret (X_ret1 rfl rfl ?_))))))))))))
      exact ⟨A, c, rfl, hO, hE⟩
theorem refInt_c (n : Int) (w : World) :
    Calls Try.prog 20 #[.int .i64 n] w fun e w' => ∃ A c, e = .returned (.slice A 8 c) ∧ Own w' w.heap.size 5 1 A 8 c (ints .u8 (le8 n)) ∧ Ext w w' := by
  refine calls_of (l := [.int .i64 n]) (N := 6) Try.func20 rfl rfl rfl ?_
  refine C_seq (C_region (RL_q rfl (Yd_assign rfl) (RL_nil (X_then (C_seq (C_region (RL_q rfl (Yd_move rfl) (RL_q rfl (Yd_conv ⟨_, Try.underlying3⟩ Try.underlying28 rfl rfl) (RL_l rfl (Ld_call Try.func21 rfl (by kernel_rfl) rfl (refUint_c _ _ (u64_range n).1 (u64_range n).2) ?_))))))))))
  rintro e W1 ⟨A, c, rfl, hO, he1⟩
  refine ⟨_, rfl, ?_⟩
  refine RL_q rfl (Yd_assign rfl) (RL_nil (X_then (C_ret (X_ret1 rfl rfl ?_))))
  exact ⟨A, c, rfl, hO, he1⟩
theorem Few_c {B : Nat} (A : Option Addr) (n c : Nat) (bs : List Int) (m : Int) (w : World) (hr : Rd w B 1 A n (ints .u8 bs)) (hn : bs.length = n) (hc : n ≤ c) (hm : 0 ≤ m) (hm2 : m ≤ 65536) (hnil : A = none → c = 0) :
    Calls Try.prog 17 #[.slice A n c, .int .i64 m] w fun e w' => ∃ A' c', e = .returned (.slice A' (few bs m).length c') ∧ Own w' w.heap.size 5 1 A' (few bs m).length c' (ints .u8 (few bs m)) ∧ Ext w w' := by
  have hm3 := few_len bs m hm
  have hm4 := few_le bs m hm
  rw [hn] at hm3 hm4
  refine calls_of (l := [.slice A n c, .int .i64 m]) (N := 14) Try.func17 rfl rfl rfl ?_
  refine C_seq (C_region (RL_q rfl (Yd_assign rfl) (RL_nil (X_then (C_seq (C_region (RL_q rfl (Yd_assign rfl) (RL_nil (X_then (C_seq (C_region (RL_q rfl (Yd_move rfl) (RL_q rfl (Yd_move rfl) (RL_q rfl (Yd_move rfl) (RL_q rfl (Yd_len Try.underlying24 rfl) (RL_q rfl (Yd_move rfl) (RL_q rfl (Yd_minw rfl rfl hm3) (RL_q rfl (Yd_sliceH Try.underlying24 (sz := 1) (by kernel_rfl) rfl rfl (by omega) (by omega)) (?_)))))))))))))))))))
  have hcut : Rd w B 1 A (few bs m).length (ints .u8 (few bs m)) := by
    have := hr.cut (k := 0) (m := (few bs m).length) (cap := (few bs m).length + 1) (by omega) hm4.2 (by omega)
    rw [if_neg (by omega)] at this
    simp only [Nat.sub_zero, Nat.mul_one, List.drop_zero, ints_take, add_zero', Option.map_id_fun', id] at this
    rwa [show bs.take (few bs m).length = few bs m from by simp [few]] at this
  refine RL_l rfl (Ld_app Try.underlying24 Try.elt5 rfl (by decide) rfl rfl (Own.nil w w.heap.size 5 1) (m := (few bs m).length) hcut (ints_one _ _) (by simp only [maxLen]; omega) (by omega) (Nat.le_refl _) hnil (Nat.zero_add _) ?_)
  intro A2 c2 W1 hO2 hg1 hat1
  have he1 := ext_app (Own.nil w w.heap.size 5 1) (Below.refl _ _) (Nat.le_refl _) hg1
  refine RL_q rfl (Yd_assign rfl) (RL_nil (X_then (C_ret (X_ret1 rfl rfl ?_))))
  exact ⟨A2, c2, rfl, hO2, he1⟩
theorem layUint_c {B : Nat} (A : Option Addr) (m c : Nat) (bs : List Int) (n : Int) (w : World) (hr : Rd w B 1 A m (ints .u8 bs)) (hn : bs.length = m) (hc : m ≤ c) (hs : m ≤ 65536) (hnil : A = none → c = 0) :
    Calls Try.prog 18 #[.slice A m c, .int .u64 n] w fun e w' => ∃ A' c', e = .returned (.slice A' (m + 8) c') ∧ Own w' w.heap.size 5 1 A' (m + 8) c' (ints .u8 (bs ++ le 8 n)) ∧ Ext w w' := by
  refine calls_of (l := [.slice A m c, .int .u64 n]) (N := 25) Try.func18 rfl rfl rfl ?_
  refine C_seq (C_region (RL_q rfl (Yd_assign rfl) (RL_nil (X_then (C_seq (C_region (RL_q rfl (Yd_move rfl) (RL_q rfl (Yd_move rfl) (RL_q rfl (Yd_len Try.underlying24 rfl) (RL_q rfl (Yd_move rfl) (RL_q rfl (Yd_len Try.underlying24 rfl) (RL_q rfl (Yd_slice3 Try.underlying24 (sz := 1) (by kernel_rfl) rfl rfl rfl (by omega) (by omega) (by omega)) (RL_q rfl (Yd_assign rfl) (RL_nil (X_then (C_seq (C_seq (C_region (RL_q rfl (Yd_move rfl) (RL_nil (X_then (C_block (?_)))))))))))))))))))))))
  refine C_loop (T := Nat × Option Addr × Nat) (fun ⟨k, A', c'⟩ => [(0, .slice A' (m + k) c'), (1, .int .u64 n), (12, .int .i64 k)]) (fun ⟨k, A', c'⟩ w1 => k ≤ 8 ∧ Tip w1 w.heap.size 5 1 A' (m + k) c' (ints .u8 (bs ++ le k n)) ∧ (0 < k → Own w1 w.heap.size 5 1 A' (m + k) c' (ints .u8 (bs ++ le k n))) ∧ Ext w w1) (fun ⟨k, A', c'⟩ => 8 - k) (⟨0, A, m⟩) ⟨rfl, rfl, rfl, trivial⟩ ?_ ?_
  · exact ⟨by omega, .inr ⟨rfl, fun h => by have := hnil h; omega, B, by simpa [le] using hr⟩, fun h => absurd h (by omega), Ext.refl _⟩
  · rintro ⟨k, A', c'⟩ w1 ⟨hk, hT, hO, hE⟩
    refine C_seq (C_region (RL_q rfl (Yd_lss rfl rfl) (RL_nil (X_then (C_seq (?_))))))
    refine C_cond rfl (fun hb => ?_) (fun hb => ?_)
    · skip
      have hb : (k : Int) < 8 := of_decide_eq_true hb
      clear hO
      refine C_skip (X_then (C_seq (C_block (C_seq (C_region (RL_q rfl (Yd_move rfl) (RL_q rfl (Yd_assign rfl) (RL_nil (X_then (C_region (RL_q rfl (Yd_move rfl) (RL_q rfl (Yd_move rfl) (RL_q rfl (Yd_move rfl) (RL_q rfl (Yd_mul rfl rfl (i64w (by omega) (by omega))) (RL_q rfl (Yd_shr rfl rfl (by omega) rfl) (RL_q rfl (Yd_conv ⟨_, Try.underlying28⟩ Try.underlying5 rfl (shr_byte n k (by omega))) (RL_l rfl (Ld_lit Try.underlying24 rfl (lit_flat Try.underlying24 Try.elt5 rfl rfl ⟨rfl, by decide⟩) ?_))))))))))))))))))
      intro W1 he1 hz1 hB
      replace hT := hT.ext he1
      replace hE := Ext.trans hE he1
      refine RL_l rfl (Ld_appT Try.underlying24 Try.elt5 rfl (by decide) rfl rfl hT (Blk.one hB) (by simp [Value.oneCell']) (by simp only [maxLen]; omega) (by omega) hE.size (by intro h; cases h) (by omega) (r := m + (k + 1)) (by omega) ?_)
      intro A2 c2 W2 hO2 hg2
      have hE2 := hg2 w hE
      have hO3 : Own W2 w.heap.size 5 1 A2 (m + (k + 1)) c2 (ints .u8 (bs ++ le (k + 1) n)) := by
        rw [le_succ, ← List.append_assoc, ints_append]; exact hO2
      refine RL_q rfl (Yd_assign rfl) (RL_nil (X_block (X_then (C_region (RL_q rfl (Yd_add rfl rfl (i64w (by omega) (by omega))) (RL_q rfl (Yd_move rfl) (RL_nil (?_))))))))
      refine X_again (⟨k + 1, A2, c2⟩) ⟨rfl, rfl, rfl, trivial⟩ ?_ (by first | omega | (dsimp only; omega))
      exact ⟨by omega, .inl hO3, fun _ => hO3, hE2⟩
    · skip
      have hb : ¬ (k : Int) < 8 := of_decide_eq_false hb
      obtain rfl : k = 8 := by omega
      refine C_exit (X_thenE (X_thenE (X_blockE (X_then (C_seq (C_region (RL_q rfl (Yd_move rfl) (RL_q rfl (Yd_assign rfl) (RL_nil (X_then (C_ret (X_ret1 rfl rfl ?_))))))))))))
      exact ⟨A', c', rfl, hO (by omega), hE⟩
theorem layInts_c {B B2 : Nat} (A A2 : Option Addr) (m c n2 c2 : Nat) (bs l : List Int) (w : World) (hr : Rd w B 1 A m (ints .u8 bs)) (hn : bs.length = m) (hc : m ≤ c) (hnil : A = none → c = 0) (hl : Rd w B2 1 A2 n2 (ints .i64 l)) (hn2 : l.length = n2) (hs : m + 8 * n2 ≤ 65536) :
    Calls Try.prog 15 #[.slice A m c, .slice A2 n2 c2] w fun e w' => ∃ A' c', e = .returned (.slice A' (m + 8 * n2) c') ∧ (∃ B', Rd w' B' 1 A' (m + 8 * n2) (ints .u8 (bs ++ le8s l))) ∧ m + 8 * n2 ≤ c' ∧ (A' = none → c' = 0) ∧ (0 < n2 → Own w' w.heap.size 5 1 A' (m + 8 * n2) c' (ints .u8 (bs ++ le8s l))) ∧ Ext w w' := by
  refine calls_of (l := [.slice A m c, .slice A2 n2 c2]) (N := 25) Try.func15 rfl rfl rfl ?_
  refine C_seq (C_region (RL_q rfl (Yd_assign rfl) (RL_nil (X_then (C_seq (C_region (RL_q rfl (Yd_move rfl) (RL_q rfl (Yd_move rfl) (RL_q rfl (Yd_len Try.underlying24 rfl) (RL_q rfl (Yd_move rfl) (RL_q rfl (Yd_len Try.underlying24 rfl) (RL_q rfl (Yd_slice3 Try.underlying24 (sz := 1) (by kernel_rfl) rfl rfl rfl (by omega) (by omega) (by omega)) (RL_q rfl (Yd_assign rfl) (RL_nil (X_then (C_seq (C_seq (C_region (RL_q rfl (Yd_move rfl) (RL_q rfl (Yd_len Try.underlying22 rfl) (RL_q rfl (Yd_move rfl) (RL_nil (X_then (C_block (?_)))))))))))))))))))))))))
  refine C_loop (T := Nat × Option Addr × Nat) (fun ⟨k, A', c'⟩ => [(0, .slice A' (m + 8 * k) c'), (13, .slice A2 n2 c2), (14, .int .i64 n2), (15, .int .i64 k)]) (fun ⟨k, A', c'⟩ w1 => k ≤ n2 ∧ (∃ B', Rd w1 B' 1 A' (m + 8 * k) (ints .u8 (bs ++ le8s (l.take k)))) ∧ m + 8 * k ≤ c' ∧ (A' = none → c' = 0) ∧ (0 < k → Own w1 w.heap.size 5 1 A' (m + 8 * k) c' (ints .u8 (bs ++ le8s (l.take k)))) ∧ Ext w w1) (fun ⟨k, A', c'⟩ => n2 - k) (⟨0, A, m⟩) ⟨rfl, rfl, rfl, rfl, trivial⟩ ?_ ?_
  · exact ⟨by omega, ⟨B, by simpa [le8s] using hr⟩, by omega, fun h => by have := hnil h; omega, fun h => absurd h (by omega), Ext.refl _⟩
  · rintro ⟨k, A', c'⟩ w1 ⟨hk, ⟨B', hR⟩, hcc, hnn, hO, hE⟩
    refine C_seq (C_region (RL_q rfl (Yd_lss rfl rfl) (RL_nil (X_then (C_seq (?_))))))
    refine C_cond rfl (fun hb => ?_) (fun hb => ?_)
    · skip
      have hb : (k : Int) < n2 := of_decide_eq_true hb
      clear hO
      have hsz := hE.size
      obtain ⟨ad, rfl, _, hcell⟩ := (hl.ext hE).cells (by omega)
      have hget := ints_get .i64 l k (by omega)
      have hlen : (bs ++ le8s (l.take k)).length = m + 8 * k := by
        rw [List.length_append, le8s_len, List.length_take, hn, Nat.min_eq_left (by omega)]
      refine C_skip (X_then (C_seq (C_block (C_seq (C_region (RL_q rfl (Yd_idx Try.underlying22 (sz := 1) (by kernel_rfl) rfl rfl (by omega) (by omega)) (RL_q rfl (Yd_load Try.underlying3 rfl rfl (ldK (hl.ext hE) (by omega) hget (by omega))) (RL_q rfl (Yd_assign rfl) (RL_nil (X_then (C_region (RL_q rfl (Yd_move rfl) (RL_q rfl (Yd_move rfl) (RL_q rfl (Yd_conv ⟨_, Try.underlying3⟩ Try.underlying28 rfl rfl) (RL_l rfl (Ld_call Try.func18 rfl (by kernel_rfl) rfl (layUint_c A' (m + 8 * k) c' (bs ++ le8s (l.take k)) _ _ hR hlen hcc (by omega) hnn) ?_))))))))))))))))
      rintro e W1 ⟨A3, c3, rfl, hO, he1⟩
      refine ⟨_, rfl, ?_⟩
      replace hE := Ext.trans hE he1
      refine RL_q rfl (Yd_assign rfl) (RL_nil (X_block (X_then (C_region (RL_q rfl (Yd_add rfl rfl (i64w (by omega) (by omega))) (RL_q rfl (Yd_move rfl) (RL_nil (?_))))))))
      have hO3 : Own W1 w.heap.size 5 1 A3 (m + 8 * (k + 1)) c3 (ints .u8 (bs ++ le8s (l.take (k + 1)))) := by
        have h1 : bs ++ le8s (l.take (k + 1)) = (bs ++ le8s (l.take k)) ++ le 8 (IntKind.u64.wrap (l[k]'(by omega))) := by
          rw [List.take_succ_eq_append_getElem (by omega), le8s_append, List.append_assoc]; simp [le8s, le8]
        rw [h1]
        exact hO.base_ hsz
      refine X_again (⟨k + 1, A3, c3⟩) ⟨rfl, rfl, rfl, rfl, trivial⟩ ?_ (by first | omega | (dsimp only; omega))
      exact ⟨by omega, ⟨_, hO3.rd⟩, hO3.cap.1, fun h => (hO3.none_ h).1, fun _ => hO3, hE⟩
    · skip
      have hb : ¬ (k : Int) < n2 := of_decide_eq_false hb
      obtain rfl : k = n2 := by omega
      rw [List.take_of_length_le (by omega)] at hR hO
      refine C_exit (X_thenE (X_thenE (X_blockE (X_then (C_seq (C_region (RL_q rfl (Yd_move rfl) (RL_q rfl (Yd_assign rfl) (RL_nil (X_then (C_ret (X_ret1 rfl rfl ?_))))))))))))
      exact ⟨A', c', rfl, ⟨B', hR⟩, hcc, hnn, hO, hE⟩
theorem layBytes_c {B B2 : Nat} (A A2 : Option Addr) (m c n2 c2 : Nat) (bs s : List Int) (w : World) (hr : Rd w B 1 A m (ints .u8 bs)) (hn : bs.length = m) (hc : m ≤ c) (hnil : A = none → c = 0) (hl : Rd w B2 1 A2 n2 (ints .u8 s)) (hn2 : s.length = n2) (hnil2 : A2 = none → c2 = 0) (hs : m + 8 + n2 ≤ 60000) :
    Calls Try.prog 19 #[.slice A m c, .slice A2 n2 c2] w fun e w' => ∃ A' c', e = .returned (.slice A' (m + 8 + n2) c') ∧ Own w' w.heap.size 5 1 A' (m + 8 + n2) c' (ints .u8 (bs ++ text s)) ∧ Ext w w' := by
  have hE := Ext.refl w
  refine calls_of (l := [.slice A m c, .slice A2 n2 c2]) (N := 12) Try.func19 rfl rfl rfl ?_
  refine C_seq (C_region (RL_q rfl (Yd_assign rfl) (RL_nil (X_then (C_seq (C_region (RL_q rfl (Yd_move rfl) (RL_q rfl (Yd_move rfl) (RL_q rfl (Yd_len Try.underlying24 rfl) (RL_l rfl (Ld_lit Try.underlying22 rfl (lit_flat Try.underlying22 Try.elt3 rfl rfl ⟨rfl, by decide⟩) ?_)))))))))))
  intro W1 he1 hz1 hB
  replace hE := Ext.trans hE he1
  have hsz := hE.size
  refine RL_l rfl (Ld_call Try.func15 rfl (by kernel_rfl) rfl (layInts_c A _ m c _ _ bs [(n2 : Int)] _ (hr.ext hE) hn hc hnil (Blk.one hB) rfl (by omega)) ?_)
  rintro e W2 ⟨A3, c3, rfl, hR3, hc3, hn3, hO3, he2⟩
  refine ⟨_, rfl, ?_⟩
  replace hE := Ext.trans hE he2
  replace hB := hB.ext he2
  have hO := own_base (hO3 (by omega)) hsz
  clear hR3 hO3
  refine RL_q rfl (Yd_move rfl) (RL_l rfl (Ld_app Try.underlying24 Try.elt5 rfl (by decide) rfl rfl hO (hl.ext hE) (ints_one _ _) (by simp only [maxLen]; omega) (by omega) hE.size hnil2 rfl ?_))
  intro A4 c4 W3 hO4 hg3 hat3
  replace hE := ext_app hO hE hE.size hg3
  refine RL_q rfl (Yd_assign rfl) (RL_nil (X_then (C_ret (X_ret1 rfl rfl ?_))))
  refine ⟨A4, c4, rfl, ?_, hE⟩
  rw [text, ← List.append_assoc, ints_append, hn2]
  have h5 : le8s [(n2 : Int)] = le8 n2 := by simp [le8s]
  rw [h5] at hO4
  exact hO4
theorem refBytes_c {B2 : Nat} (A2 : Option Addr) (n2 c2 : Nat) (s : List Int) (w : World) (hl : Rd w B2 1 A2 n2 (ints .u8 s)) (hn2 : s.length = n2) (hnil2 : A2 = none → c2 = 0) (hs : n2 ≤ 60000) :
    Calls Try.prog 22 #[.slice A2 n2 c2] w fun e w' => ∃ A' c', e = .returned (.slice A' (8 + n2) c') ∧ Own w' w.heap.size 5 1 A' (8 + n2) c' (ints .u8 (text s)) ∧ Ext w w' := by
  have hE := Ext.refl w
  refine calls_of (l := [.slice A2 n2 c2]) (N := 8) Try.func22 rfl rfl rfl ?_
  refine C_seq (C_region (RL_q rfl (Yd_assign rfl) (RL_nil (X_then (C_seq (C_region (RL_q rfl (Yd_move rfl) (RL_q rfl (Yd_len Try.underlying24 rfl) (RL_l rfl (Ld_call Try.func20 rfl (by kernel_rfl) rfl (refInt_c (n2 : Int) _) ?_))))))))))
  rintro e W1 ⟨A3, c3, rfl, hO, he1⟩
  refine ⟨_, rfl, ?_⟩
  replace hE := Ext.trans hE he1
  refine RL_q rfl (Yd_move rfl) (RL_l rfl (Ld_app Try.underlying24 Try.elt5 rfl (by decide) rfl rfl hO (hl.ext hE) (ints_one _ _) (by simp only [maxLen]; omega) (by omega) hE.size hnil2 rfl ?_))
  intro A4 c4 W2 hO4 hg2 hat2
  replace hE := ext_app hO hE hE.size hg2
  refine RL_q rfl (Yd_assign rfl) (RL_nil (X_then (C_ret (X_ret1 rfl rfl ?_))))
  refine ⟨A4, c4, rfl, ?_, hE⟩
  rw [text, ints_append, hn2]
  exact hO4
end Go.Proofs.AL
