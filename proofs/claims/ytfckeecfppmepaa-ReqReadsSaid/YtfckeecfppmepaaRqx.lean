import Derived.Test.YtfckeecfppmepaaRqw
set_option linter.unusedVariables false
set_option linter.unusedSimpArgs false
namespace Go.Proofs.AL
open Go.RowKit

theorem emod_mul' (n a b : Int) (ha : 0 < a) : n % (a * b) = n % a + a * (n / a % b) := by
  rw [Int.emod_def n (a * b), Int.emod_def n a, Int.emod_def (n / a) b, Int.ediv_ediv_of_nonneg (by omega), Int.mul_sub, ← Int.mul_assoc]
  omega
/-- the number of bytes, the lowest first -/
def leval : List Int → Int
  | [] => 0
  | b :: r => b + 256 * leval r
theorem leval_append (a b : List Int) : leval (a ++ b) = leval a + 256 ^ a.length * leval b := by
  induction a with
  | nil => simp [leval]
  | cons x a ih =>
    simp only [List.cons_append, leval, ih, List.length_cons, Int.pow_succ]
    rw [Int.mul_add, ← Int.mul_assoc, Int.mul_comm 256 (256 ^ a.length), Int.add_assoc]
theorem leval_bd {a : List Int} (h : Byt a) : 0 ≤ leval a ∧ leval a < 256 ^ a.length := by
  induction a with
  | nil => simp [leval]
  | cons x a ih =>
    have h1 := ih (fun b hb => h b (by simp [hb]))
    have h2 := h x (by simp)
    simp only [leval, List.length_cons, Int.pow_succ]
    omega
theorem leval_le (k : Nat) (n : Int) : leval (le k n) = n % 256 ^ k := by
  induction k with
  | zero => simp [le, leval, Int.emod_one]
  | succ k ih =>
    have h1 : (0 : Int) < 256 ^ k := Int.pow_pos (by decide)
    rw [le_succ, leval_append, ih, le_len, Int.pow_succ, emod_mul' _ _ _ h1]
    simp only [leval, Int.mul_zero, Int.add_zero]
/-- a reader: what is left; none: there was an error -/
abbrev RS := Option (List Int)
def rUint : RS → Int × RS
  | some bs => if 8 ≤ bs.length then (leval (bs.take 8), some (bs.drop 8)) else (0, none)
  | none => (0, none)
def rTake (n : Int) : RS → List Int × RS
  | some bs => if n ≤ bs.length then (bs.take n.toNat, some (bs.drop n.toNat)) else ([], none)
  | none => ([], none)
def rBytes (most : Int) (st : RS) : List Int × RS := if most < 0 ∨ most < (rUint st).1 then ([], none) else rTake (rUint st).1 (rUint st).2
def rLeft : RS → Int
  | some bs => bs.length
  | none => 0
def rErr : RS → Int
  | some _ => 0
  | none => 2
def rEnd : RS → Int
  | some bs => if bs.length = 0 then 0 else 2
  | none => 2
def rGood : RS → Prop
  | some bs => Byt bs ∧ bs.length ≤ 60000
  | none => True
theorem rUint_good {st : RS} (h : rGood st) : rGood (rUint st).2 ∧ 0 ≤ (rUint st).1 ∧ (rUint st).1 ≤ 18446744073709551615 := by
  cases st with
  | none => exact ⟨trivial, by simp [rUint], by simp [rUint]⟩
  | some bs =>
    simp only [rUint]
    split
    · have h2 := leval_bd (h.1.take 8)
      have h3 : (bs.take 8).length = 8 := by rw [List.length_take]; omega
      rw [h3] at h2
      exact ⟨⟨h.1.drop 8, by have := h.2; simp; omega⟩, h2.1, by have := h2.2; omega⟩
    · exact ⟨trivial, by simp, by simp⟩
theorem rTake_good {st : RS} (n : Int) (h : rGood st) : rGood (rTake n st).2 ∧ Byt (rTake n st).1 ∧ (rTake n st).1.length ≤ 60000 := by
  cases st with
  | none => exact ⟨trivial, Byt.nil, by simp [rTake]⟩
  | some bs =>
    simp only [rTake]
    split
    · exact ⟨⟨h.1.drop _, by have := h.2; simp; omega⟩, h.1.take _, by have := h.2; simp; omega⟩
    · exact ⟨trivial, Byt.nil, by simp⟩
theorem rBytes_good {st : RS} (m : Int) (h : rGood st) : rGood (rBytes m st).2 ∧ Byt (rBytes m st).1 ∧ (rBytes m st).1.length ≤ 60000 := by
  simp only [rBytes]
  split
  · exact ⟨trivial, Byt.nil, by simp⟩
  · exact rTake_good _ (rUint_good h).1
theorem Rd.kp2 {G : Nat → Prop} {w w' : World} {lo B sz n : Nat} {A : Option Addr} {xs : List Value} (h : Rd w B sz A n xs) (hb : Kp G w w') (hlo : ∀ ad, A = some ad → lo ≤ ad.block) (hG : ∀ k, G k → k < lo ∨ B ≤ k) : Rd w' B sz A n xs :=
  ⟨h.len, fun hn => by
    obtain ⟨ad, e, hb', hc⟩ := h.cells hn
    exact ⟨ad, e, hb', fun j u hu => hb.cell (hc j u hu) (fun hg => by have := hG _ hg; have := hlo ad e; rw [add_block] at *; omega)⟩⟩
/-- the program's reader at block g -/
def LR (T : TypeId) (lo lim : Nat) (w : World) (g : Nat) : RS → Prop
  | none => Blk w g T [.slice none 0 0, .bool true] ∧ lim ≤ g
  | some bs => (∃ A c, Blk w g T [.slice A bs.length c, .bool false] ∧ Rd w lim 1 A bs.length (ints .u8 bs) ∧ bs.length ≤ c ∧ (A = none → c = 0) ∧ ∀ ad, A = some ad → lo ≤ ad.block) ∧ lim ≤ g
theorem LR.lim {T : TypeId} {lo lim : Nat} {w : World} {g : Nat} {st : RS} (h : LR T lo lim w g st) : lim ≤ g := by cases st <;> exact h.2
theorem LR.lt {T : TypeId} {lo lim : Nat} {w : World} {g : Nat} {st : RS} (h : LR T lo lim w g st) : g < w.heap.size := by
  cases st with
  | none => exact h.1.lt
  | some bs => obtain ⟨⟨A, c, h1, _⟩, _⟩ := h; exact h1.lt
theorem LR.kp {T : TypeId} {lo lim : Nat} {w w' : World} {g : Nat} {st : RS} (h : LR T lo lim w g st) {G : Nat → Prop} (hb : Kp G w w') (hg : ¬ G g) (hG : ∀ k, G k → k < lo ∨ lim ≤ k) : LR T lo lim w' g st := by
  cases st with
  | none => exact ⟨h.1.kp hb hg, h.2⟩
  | some bs =>
    obtain ⟨⟨A, c, h1, h2, h3, h4, h6⟩, h5⟩ := h
    exact ⟨⟨A, c, h1.kp hb hg, h2.kp2 hb h6 hG, h3, h4, h6⟩, h5⟩
theorem LR.ext {T : TypeId} {lo lim : Nat} {w w' : World} {g : Nat} {st : RS} (h : LR T lo lim w g st) (hb : Ext w w') : LR T lo lim w' g st := h.kp (G := NoB) (Kp.of_ext hb) (fun h => h) (fun _ h => h.elim)
/-- the reference's reader at block g -/
def RR (T : TypeId) (lo lim : Nat) (w : World) (g : Nat) : RS → Prop
  | none => (∃ A n c, ∃ I : Int, Blk w g T [.slice A n c, .int .i64 I, .bool true]) ∧ lim ≤ g
  | some bs => (∃ A c, ∃ all : List Int, ∃ I : Nat, Blk w g T [.slice A all.length c, .int .i64 I, .bool false] ∧ Rd w lim 1 A all.length (ints .u8 all) ∧ all.length ≤ c ∧ (A = none → c = 0) ∧ bs = all.drop I ∧ I ≤ all.length ∧ all.length ≤ 60000 ∧ ∀ ad, A = some ad → lo ≤ ad.block) ∧ lim ≤ g
theorem RR.lim {T : TypeId} {lo lim : Nat} {w : World} {g : Nat} {st : RS} (h : RR T lo lim w g st) : lim ≤ g := by cases st <;> exact h.2
theorem RR.lt {T : TypeId} {lo lim : Nat} {w : World} {g : Nat} {st : RS} (h : RR T lo lim w g st) : g < w.heap.size := by
  cases st with
  | none => obtain ⟨⟨A, n, c, I, h1⟩, _⟩ := h; exact h1.lt
  | some bs => obtain ⟨⟨A, c, all, I, h1, _⟩, _⟩ := h; exact h1.lt
theorem RR.kp {T : TypeId} {lo lim : Nat} {w w' : World} {g : Nat} {st : RS} (h : RR T lo lim w g st) {G : Nat → Prop} (hb : Kp G w w') (hg : ¬ G g) (hG : ∀ k, G k → k < lo ∨ lim ≤ k) : RR T lo lim w' g st := by
  cases st with
  | none => obtain ⟨⟨A, n, c, I, h1⟩, h2⟩ := h; exact ⟨⟨A, n, c, I, h1.kp hb hg⟩, h2⟩
  | some bs =>
    obtain ⟨⟨A, c, all, I, h1, h2, h3⟩, h5⟩ := h
    exact ⟨⟨A, c, all, I, h1.kp hb hg, h2.kp2 hb h3.2.2.2.2.2 hG, h3⟩, h5⟩
theorem RR.ext {T : TypeId} {lo lim : Nat} {w w' : World} {g : Nat} {st : RS} (h : RR T lo lim w g st) (hb : Ext w w') : RR T lo lim w' g st := h.kp (G := NoB) (Kp.of_ext hb) (fun h => h) (fun _ h => h.elim)
theorem RR.new {T : TypeId} {lo lim : Nat} {w : World} {g c : Nat} {bs : List Int} {A : Option Addr} (hB : Blk w g T [.slice A bs.length c, .int .i64 0, .bool false]) (hr : Rd w lim 1 A bs.length (ints .u8 bs)) (hc : bs.length ≤ c) (hz : A = none → c = 0) (hl : bs.length ≤ 60000) (hlo : ∀ ad, A = some ad → lo ≤ ad.block) (h : lim ≤ g) : RR T lo lim w g (some bs) :=
  ⟨⟨A, c, bs, 0, hB, hr, hc, hz, rfl, Nat.zero_le _, hl, hlo⟩, h⟩
theorem Kp.of_but1 {g : Nat} {w w' : World} (h : But g w w') : Kp (fun k => k = g) w w' := Kp.of_but h rfl
theorem lo_cut {A : Option Addr} {c k lo : Nat} (h : ∀ ad, A = some ad → lo ≤ ad.block) : ∀ ad, (if c = k then A else A.map (·.add (k * 1))) = some ad → lo ≤ ad.block := by
  intro ad e
  split at e
  · exact h ad e
  · obtain ⟨a, ha, rfl⟩ := Option.map_eq_some_iff.1 e
    rw [add_block]; exact h a ha
theorem take_len {bs : List Int} {k : Nat} (h : k ≤ bs.length) : (bs.take k).length = k := by rw [List.length_take]; omega
theorem drop_len {bs : List Int} {k : Nat} : (bs.drop k).length = bs.length - k := by simp
/-- the next byte of a number, by a shift and an or -/
theorem or_byte (n c : Int) (k : Nat) (hk : k < 8) (h0 : 0 ≤ n) (h1 : n < 256 ^ k) (h2 : 0 ≤ c) (h3 : c ≤ 255) :
    bitsOp .or .u64 n (IntKind.u64.wrap (c * 2 ^ (min (8 * (k : Int)).toNat IntKind.u64.bits))) = n + 256 ^ k * c := by
  obtain ⟨n, rfl⟩ := Int.eq_ofNat_of_zero_le h0
  obtain ⟨c, rfl⟩ := Int.eq_ofNat_of_zero_le h2
  have e1 : min (8 * (k : Int)).toNat IntKind.u64.bits = 8 * k := by simp [IntKind.bits]; omega
  have hn : n < 2 ^ (8 * k) := by
    rw [Nat.pow_mul, show (2 : Nat) ^ 8 = 256 from rfl]
    rw [show (256 : Int) ^ k = ((256 ^ k : Nat) : Int) from (Int.natCast_pow 256 k).symm] at h1
    exact Int.ofNat_lt.1 h1
  have hp : (2 : Nat) ^ (8 * k) ≤ 2 ^ 56 := Nat.pow_le_pow_right (by decide) (by omega)
  have hc : c * 2 ^ (8 * k) < 2 ^ 64 := by
    have : c * 2 ^ (8 * k) ≤ 255 * 2 ^ 56 := Nat.mul_le_mul (by omega) hp
    omega
  have hor : n ||| c * 2 ^ (8 * k) = n + c * 2 ^ (8 * k) := by
    rw [Nat.or_comm, ← Nat.shiftLeft_eq, ← Nat.shiftLeft_add_eq_or_of_lt hn, Nat.add_comm]
  have hs : n + c * 2 ^ (8 * k) < 2 ^ 64 := by
    have : c * 2 ^ (8 * k) ≤ 255 * 2 ^ (8 * k) := Nat.mul_le_mul_right _ (by omega)
    have h4 : 256 * 2 ^ (8 * k) ≤ 256 * 2 ^ 56 := Nat.mul_le_mul_left _ hp
    omega
  rw [e1]
  have e2 : IntKind.u64.wrap ((c : Int) * 2 ^ (8 * k)) = ((c * 2 ^ (8 * k) : Nat) : Int) := by
    rw [u64_wrap]
    have : ((c : Int) * 2 ^ (8 * k)) = ((c * 2 ^ (8 * k) : Nat) : Int) := by rw [Int.natCast_mul, Int.natCast_pow]; rfl
    rw [this]; omega
  rw [e2]
  have e3 : (BitVec.ofInt IntKind.u64.bits (n : Int) ||| BitVec.ofInt IntKind.u64.bits ((c * 2 ^ (8 * k) : Nat) : Int)).toNat = n + c * 2 ^ (8 * k) := by
    show (BitVec.ofInt 64 (n : Int) ||| BitVec.ofInt 64 ((c * 2 ^ (8 * k) : Nat) : Int)).toNat = _
    rw [BitVec.ofInt_natCast, BitVec.ofInt_natCast, BitVec.toNat_or, BitVec.toNat_ofNat, BitVec.toNat_ofNat, Nat.mod_eq_of_lt (by omega), Nat.mod_eq_of_lt hc, hor]
  simp only [bitsOp]
  rw [e3, u64_wrap]
  have e4 : ((256 : Int) ^ k * (c : Int)) = ((c * 2 ^ (8 * k) : Nat) : Int) := by
    rw [Nat.pow_mul, show (2 : Nat) ^ 8 = 256 from rfl, Int.natCast_mul, Int.natCast_pow, Int.mul_comm]; rfl
  rw [e4]
  omega
theorem take_bad (w : World) (g lo lim : Nat) (n : Int) (h : LR 75 lo lim w g none) :
    Calls Try.prog 50 #[.pointer (some ⟨g, 0, none⟩), .int .u64 n] w fun e w' => ∃ A c, e = .returned (.slice A (rTake n (none)).1.length c) ∧ Rd w' lim 1 A (rTake n (none)).1.length (ints .u8 (rTake n (none)).1) ∧ c = (rTake n (none)).1.length ∧ (A = none → c = 0) ∧ (∀ ad, A = some ad → lo ≤ ad.block) ∧ LR 75 lo lim w' g (rTake n (none)).2 ∧ But g w w' := by
  obtain ⟨hB, hl⟩ := h
  refine calls_of (l := [.pointer (some ⟨g, 0, none⟩), .int .u64 n]) (N := 43) Try.func50 rfl rfl rfl ?_
  refine C_seq (C_region (RL_q rfl (Yd_assign rfl) (RL_nil (X_then (C_seq (C_seq (C_region (RL_q rfl (Yd_move rfl) (RL_q rfl (Yd_nil rfl) (RL_q rfl (Yd_fld (off := 1) Try.underlying75 (by kernel_rfl) rfl) (RL_q rfl (Yd_load Try.underlying4 rfl rfl (ldB hB rfl)) (RL_q rfl (Yd_move rfl) (RL_gn rfl rfl rfl rfl (RL_gn rfl rfl rfl rfl (RL_gn rfl rfl rfl rfl (RL_gn rfl rfl rfl rfl (RL_gn rfl rfl rfl rfl (RL_gn rfl rfl rfl rfl (RL_gn rfl rfl rfl rfl (RL_gn rfl rfl rfl rfl (RL_q rfl (Yd_pickT rfl rfl) (RL_nil (X_then (C_yes rfl rfl (C_seq (C_region (RL_q rfl (Yd_move rfl) (RL_q rfl (Yd_move rfl) (RL_q rfl (Yd_nil rfl) (RL_q rfl (Yd_fld (off := 0) Try.underlying75 (by kernel_rfl) rfl) (RL_l0 (Ld_store (by kernel_rfl) rfl rfl hB (Nat.le_of_ble_eq_true rfl) (by simp [cellsL, Value.cells, Value.oneCell']) ?_))))))))))))))))))))))))))))))))
  intro W1 hu1 hz1 hB1
  refine RL_q rfl (Yd_nil rfl) (RL_q rfl (Yd_fld (off := 1) Try.underlying75 (by kernel_rfl) rfl) (RL_l0 (Ld_store (by kernel_rfl) rfl rfl hB1 (Nat.le_of_ble_eq_true rfl) (by simp [cellsL, Value.cells, Value.oneCell']) ?_)))
  intro W2 hu2 hz2 hB2
  refine RL_nil (X_then (C_seq (C_region (RL_q rfl (Yd_assign rfl) (RL_nil (X_then (C_ret (X_thenR (X_ret1 rfl rfl ?_)))))))))
  exact ⟨none, 0, rfl, Rd.none _ _ _, rfl, fun _ => rfl, (fun _ h => by cases h), ⟨hB2, hl⟩, But.trans hu1 hu2⟩
theorem take_short (w : World) (g lo lim : Nat) (n : Int) (bs : List Int) (h : LR 75 lo lim w g (some bs)) (hb : bs.length ≤ 60000) (hn : (bs.length : Int) < n) :
    Calls Try.prog 50 #[.pointer (some ⟨g, 0, none⟩), .int .u64 n] w fun e w' => ∃ A c, e = .returned (.slice A (rTake n (some bs)).1.length c) ∧ Rd w' lim 1 A (rTake n (some bs)).1.length (ints .u8 (rTake n (some bs)).1) ∧ c = (rTake n (some bs)).1.length ∧ (A = none → c = 0) ∧ (∀ ad, A = some ad → lo ≤ ad.block) ∧ LR 75 lo lim w' g (rTake n (some bs)).2 ∧ But g w w' := by
  obtain ⟨⟨A, c, hB, _⟩, hl⟩ := h
  refine calls_of (l := [.pointer (some ⟨g, 0, none⟩), .int .u64 n]) (N := 43) Try.func50 rfl rfl rfl ?_
  refine C_seq (C_region (RL_q rfl (Yd_assign rfl) (RL_nil (X_then (C_seq (C_seq (C_region (RL_q rfl (Yd_move rfl) (RL_q rfl (Yd_nil rfl) (RL_q rfl (Yd_fld (off := 1) Try.underlying75 (by kernel_rfl) rfl) (RL_q rfl (Yd_load Try.underlying4 rfl rfl (ldB hB rfl)) (RL_q rfl (Yd_move rfl) (RL_gq rfl rfl rfl (Yd_move rfl) (RL_gq rfl rfl rfl (Yd_move rfl) (RL_gq rfl rfl rfl (Yd_nil rfl) (RL_gq rfl rfl rfl (Yd_fld (off := 0) Try.underlying75 (by kernel_rfl) rfl) (RL_gq rfl rfl rfl (Yd_load Try.underlying24 rfl rfl (ldB hB rfl)) (RL_gq rfl rfl rfl (Yd_len Try.underlying24 rfl) (RL_gq rfl rfl rfl (Yd_conv ⟨_, Try.underlying3⟩ Try.underlying28 rfl (u64w (by omega) (by omega))) (RL_gq rfl rfl rfl (Yd_gtr rfl rfl) (RL_q rfl (Yd_pickF rfl rfl) (RL_nil (X_then (?_))))))))))))))))))))))))
  refine C_yes rfl (decide_eq_true hn) (C_seq (C_region (RL_q rfl (Yd_move rfl) (RL_q rfl (Yd_move rfl) (RL_q rfl (Yd_nil rfl) (RL_q rfl (Yd_fld (off := 0) Try.underlying75 (by kernel_rfl) rfl) (RL_l0 (Ld_store (by kernel_rfl) rfl rfl hB (Nat.le_of_ble_eq_true rfl) (by simp [cellsL, Value.cells, Value.oneCell']) ?_))))))))
  intro W1 hu1 hz1 hB1
  refine RL_q rfl (Yd_nil rfl) (RL_q rfl (Yd_fld (off := 1) Try.underlying75 (by kernel_rfl) rfl) (RL_l0 (Ld_store (by kernel_rfl) rfl rfl hB1 (Nat.le_of_ble_eq_true rfl) (by simp [cellsL, Value.cells, Value.oneCell']) ?_)))
  intro W2 hu2 hz2 hB2
  refine RL_nil (X_then (C_seq (C_region (RL_q rfl (Yd_assign rfl) (RL_nil (X_then (C_ret (X_thenR (X_ret1 rfl rfl ?_)))))))))
  have e : rTake n (some bs) = ([], none) := by simp only [rTake]; rw [if_neg (by omega)]
  rw [e]
  exact ⟨none, 0, rfl, Rd.none _ _ _, rfl, fun _ => rfl, (fun _ h => by cases h), ⟨hB2, hl⟩, But.trans hu1 hu2⟩
theorem take_ok (w : World) (g lo lim : Nat) (k : Nat) (bs : List Int) (h : LR 75 lo lim w g (some bs)) (hb : bs.length ≤ 60000) (hn : k ≤ bs.length) :
    Calls Try.prog 50 #[.pointer (some ⟨g, 0, none⟩), .int .u64 (k : Int)] w fun e w' => ∃ A c, e = .returned (.slice A (rTake k (some bs)).1.length c) ∧ Rd w' lim 1 A (rTake k (some bs)).1.length (ints .u8 (rTake k (some bs)).1) ∧ c = (rTake k (some bs)).1.length ∧ (A = none → c = 0) ∧ (∀ ad, A = some ad → lo ≤ ad.block) ∧ LR 75 lo lim w' g (rTake k (some bs)).2 ∧ But g w w' := by
  obtain ⟨⟨A, c, hB, hr, hc, hz, hlo⟩, hl⟩ := h
  refine calls_of (l := [.pointer (some ⟨g, 0, none⟩), .int .u64 (k : Int)]) (N := 43) Try.func50 rfl rfl rfl ?_
  refine C_seq (C_region (RL_q rfl (Yd_assign rfl) (RL_nil (X_then (C_seq (C_seq (C_region (RL_q rfl (Yd_move rfl) (RL_q rfl (Yd_nil rfl) (RL_q rfl (Yd_fld (off := 1) Try.underlying75 (by kernel_rfl) rfl) (RL_q rfl (Yd_load Try.underlying4 rfl rfl (ldB hB rfl)) (RL_q rfl (Yd_move rfl) (RL_gq rfl rfl rfl (Yd_move rfl) (RL_gq rfl rfl rfl (Yd_move rfl) (RL_gq rfl rfl rfl (Yd_nil rfl) (RL_gq rfl rfl rfl (Yd_fld (off := 0) Try.underlying75 (by kernel_rfl) rfl) (RL_gq rfl rfl rfl (Yd_load Try.underlying24 rfl rfl (ldB hB rfl)) (RL_gq rfl rfl rfl (Yd_len Try.underlying24 rfl) (RL_gq rfl rfl rfl (Yd_conv ⟨_, Try.underlying3⟩ Try.underlying28 rfl (u64w (by omega) (by omega))) (RL_gq rfl rfl rfl (Yd_gtr rfl rfl) (RL_q rfl (Yd_pickF rfl rfl) (RL_nil (X_then (?_))))))))))))))))))))))))
  refine C_no rfl (decide_eq_false (by omega)) (C_skip (X_then (C_seq (C_region (RL_q rfl (Yd_move rfl) (RL_q rfl (Yd_nil rfl) (RL_q rfl (Yd_fld (off := 0) Try.underlying75 (by kernel_rfl) rfl) (RL_q rfl (Yd_load Try.underlying24 rfl rfl (ldB hB rfl)) (RL_q rfl (Yd_move rfl) (RL_q rfl (Yd_move rfl) (RL_q rfl (Yd_slice3 Try.underlying24 (sz := 1) (by kernel_rfl) rfl rfl rfl (by omega) (by omega) (by omega)) (RL_q rfl (Yd_assign rfl) (RL_nil (X_then (C_seq (C_region (RL_q rfl (Yd_move rfl) (RL_q rfl (Yd_move rfl) (RL_q rfl (Yd_nil rfl) (RL_q rfl (Yd_fld (off := 0) Try.underlying75 (by kernel_rfl) rfl) (RL_q rfl (Yd_load Try.underlying24 rfl rfl (ldB hB rfl)) (RL_q rfl (Yd_move rfl) (RL_q rfl (Yd_sliceL Try.underlying24 (sz := 1) (by kernel_rfl) rfl rfl (by omega) (by omega)) (RL_q rfl (Yd_nil rfl) (RL_q rfl (Yd_fld (off := 0) Try.underlying75 (by kernel_rfl) rfl) (RL_l0 (Ld_store (by kernel_rfl) rfl rfl hB (Nat.le_of_ble_eq_true rfl) (by simp [cellsL, Value.cells, Value.oneCell']) ?_)))))))))))))))))))))))))))
  intro W1 hu1 hz1 hB1
  refine RL_nil (X_then (C_seq (C_region (RL_q rfl (Yd_move rfl) (RL_q rfl (Yd_assign rfl) (RL_nil (X_then (C_ret (X_ret1 rfl rfl ?_)))))))))
  have e : rTake (k : Int) (some bs) = (bs.take k, some (bs.drop k)) := by simp only [rTake]; rw [if_pos (by omega)]; rfl
  rw [e]
  simp only []
  rw [take_len hn]
  have hr1 := (hr.take1 hn).kpl (Kp.of_but1 hu1) (fun j hj => by omega)
  have hr2 := (hr.drop1 hn hc).kpl (Kp.of_but1 hu1) (fun j hj => by omega)
  rw [ints_take] at hr1
  rw [ints_drop] at hr2
  refine ⟨A, k, rfl, hr1, rfl, (fun h => by have := hz h; omega), hlo, ⟨⟨(if c = k then A else A.map (·.add (k * 1))), c - k, ?_, ?_, ?_, ?_, ?_⟩, hl⟩, hu1⟩
  · rw [drop_len]; exact hB1
  · rw [drop_len]; exact hr2
  · rw [drop_len]; omega
  · exact nil_cut hz
  · exact lo_cut hlo
theorem take_c (w : World) (g lo lim : Nat) (n : Int) (st : RS) (h : LR 75 lo lim w g st) (hg : rGood st) (h0 : 0 ≤ n) :
    Calls Try.prog 50 #[.pointer (some ⟨g, 0, none⟩), .int .u64 n] w fun e w' => ∃ A c, e = .returned (.slice A (rTake n (st)).1.length c) ∧ Rd w' lim 1 A (rTake n (st)).1.length (ints .u8 (rTake n (st)).1) ∧ c = (rTake n (st)).1.length ∧ (A = none → c = 0) ∧ (∀ ad, A = some ad → lo ≤ ad.block) ∧ LR 75 lo lim w' g (rTake n (st)).2 ∧ But g w w' := by
  cases st with
  | none => exact take_bad w g lo lim n h
  | some bs =>
    by_cases hn : n ≤ bs.length
    · obtain ⟨k, rfl⟩ := Int.eq_ofNat_of_zero_le h0
      exact take_ok w g lo lim k bs h hg.2 (by omega)
    · exact take_short w g lo lim n bs h hg.2 (by omega)

theorem rUint_take (st : RS) : rUint st = (leval (rTake 8 st).1, (rTake 8 st).2) ∧ (rTake 8 st).1.length ≤ 8 := by
  cases st with
  | none => exact ⟨by simp [rUint, rTake, leval], by simp [rTake]⟩
  | some bs =>
    by_cases h : 8 ≤ bs.length
    · have h2 : (8 : Int) ≤ bs.length := by omega
      have e : rTake 8 (some bs) = (bs.take 8, some (bs.drop 8)) := by simp only [rTake]; rw [if_pos h2]; rfl
      rw [e]
      exact ⟨by simp only [rUint]; rw [if_pos h], by simp only [List.length_take]; omega⟩
    · have h2 : ¬ (8 : Int) ≤ bs.length := by omega
      have e : rTake 8 (some bs) = ([], none) := by simp only [rTake]; rw [if_neg h2]
      rw [e]
      exact ⟨by simp only [rUint]; rw [if_neg h]; rfl, by simp⟩
theorem or_next (out : List Int) (k : Nat) (hk : k < out.length) (hb : Byt out) (h8 : out.length ≤ 8) :
    bitsOp .or .u64 (leval (out.take k)) (IntKind.u64.wrap (out[k] * 2 ^ (min (8 * (k : Int)).toNat IntKind.u64.bits))) = leval (out.take (k + 1)) := by
  have h1 := leval_bd (hb.take k)
  rw [take_len (by omega)] at h1
  have h2 := hb.get k hk
  rw [or_byte _ _ k (by omega) h1.1 h1.2 h2.1 h2.2, List.take_succ_eq_append_getElem hk, leval_append, take_len (by omega)]
  simp [leval]
theorem down_next (l : List Int) (j : Nat) (hj : j < l.length) : leval (l.drop j) = 256 * leval (l.drop (j + 1)) + l[j] := by
  rw [List.drop_eq_getElem_cons hj]
  simp only [leval]
  omega
theorem down_bd (l : List Int) (j : Nat) (hb : Byt l) (hl : l.length = 8) (hj : 1 ≤ j) : 0 ≤ leval (l.drop j) ∧ leval (l.drop j) ≤ 72057594037927935 := by
  have h := leval_bd (hb.drop j)
  refine ⟨h.1, ?_⟩
  have h1 : (l.drop j).length ≤ 7 := by rw [List.length_drop]; omega
  have h2 : (256 : Int) ^ (l.drop j).length ≤ 256 ^ 7 := by
    have := Nat.pow_le_pow_right (n := 256) (by decide) h1
    have h3 : ((256 ^ (l.drop j).length : Nat) : Int) ≤ ((256 ^ 7 : Nat) : Int) := Int.ofNat_le.2 this
    rwa [Int.natCast_pow, Int.natCast_pow] at h3
  have h4 : (256 : Int) ^ 7 = 72057594037927936 := by decide
  omega
theorem lrUint_c (w : World) (g lo lim : Nat) (st : RS) (h : LR 75 lo lim w g st) (hg : rGood st) :
    Calls Try.prog 24 #[.pointer (some ⟨g, 0, none⟩)] w fun e w' => e = .returned (.int .u64 (rUint st).1) ∧ LR 75 lo lim w' g (rUint st).2 ∧ But g w w' := by
  refine calls_of (l := [.pointer (some ⟨g, 0, none⟩)]) (N := 23) Try.func24 rfl rfl rfl ?_
  refine C_seq (C_region (RL_q rfl (Yd_assign rfl) (RL_nil (X_then (C_seq (C_region (RL_q rfl (Yd_assign rfl) (RL_nil (X_then (C_seq (C_seq (C_region (RL_q rfl (Yd_move rfl) (RL_l rfl (Ld_call Try.func50 rfl (by kernel_rfl) rfl (take_c _ g lo lim 8 st h hg (by omega)) ?_)))))))))))))))
  rintro e W1 ⟨A, c, rfl, hR, hc, hz, hq, hL, hu1⟩
  refine ⟨_, rfl, ?_⟩
  have hgood := rTake_good 8 hg
  rw [(rUint_take st).1]
  have h8 := (rUint_take st).2
  generalize (rTake 8 st).1 = out at *
  generalize (rTake 8 st).2 = st' at *
  refine RL_q rfl (Yd_len Try.underlying24 rfl) (RL_q rfl (Yd_move rfl) (RL_nil (X_then (C_block (?_)))))
  refine C_loop (T := Nat) (fun k => [(3, .int .u64 (leval (out.take k))), (7, .slice A out.length c), (8, .int .i64 out.length), (9, .int .i64 k)]) (fun k w1 => k ≤ out.length ∧ w1 = W1) (fun k => out.length - k) (0) ⟨rfl, rfl, rfl, rfl, trivial⟩ ?_ ?_
  · exact ⟨by omega, rfl⟩
  · rintro k w1 ⟨hk, rfl⟩
    refine C_seq (C_region (RL_q rfl (Yd_lss rfl rfl) (RL_nil (X_then (C_seq (?_))))))
    refine C_cond rfl (fun hb => ?_) (fun hb => ?_)
    · skip
      have hb : (k : Int) < out.length := of_decide_eq_true hb
      obtain ⟨ad, rfl, _, _⟩ := hR.cells (by omega)
      have hget := ints_get .u8 out k (by omega)
      have hbd := hgood.2.1.get k (by omega)
      refine C_skip (X_then (C_seq (C_block (C_seq (C_region (RL_q rfl (Yd_move rfl) (RL_q rfl (Yd_idx Try.underlying24 (sz := 1) (by kernel_rfl) rfl rfl (by omega) (by omega)) (RL_q rfl (Yd_load Try.underlying5 rfl rfl (ldK hR (by omega) hget (by omega))) (RL_q rfl (Yd_assign rfl) (RL_q rfl (Yd_assign rfl) (RL_nil (X_then (C_region (RL_q rfl (Yd_move rfl) (RL_q rfl (Yd_move rfl) (RL_q rfl (Yd_conv ⟨_, Try.underlying5⟩ Try.underlying28 rfl (u64w (by omega) (by omega))) (RL_q rfl (Yd_move rfl) (RL_q rfl (Yd_mul rfl rfl (i64w (by omega) (by omega))) (RL_q rfl (Yd_shl rfl rfl (by omega) rfl) (RL_q rfl (Yd_or rfl rfl (or_next out k (by omega) hgood.2.1 h8)) (RL_q rfl (Yd_assign rfl) (RL_nil (X_block (X_then (C_region (RL_q rfl (Yd_add rfl rfl (i64w (by omega) (by omega))) (RL_q rfl (Yd_move rfl) (RL_nil (?_)))))))))))))))))))))))))))))
      refine X_again (k + 1) ⟨rfl, rfl, rfl, rfl, trivial⟩ ?_ (by first | omega | (dsimp only; omega))
      exact ⟨by omega, rfl⟩
    · skip
      have hb : ¬ (k : Int) < out.length := of_decide_eq_false hb
      obtain rfl : k = out.length := by omega
      rw [List.take_of_length_le (Nat.le_refl _)]
      refine C_exit (X_thenE (X_thenE (X_blockE (X_then (C_seq (C_region (RL_q rfl (Yd_move rfl) (RL_q rfl (Yd_assign rfl) (RL_nil (X_then (C_ret (X_ret1 rfl rfl ?_))))))))))))
      exact ⟨rfl, hL, hu1⟩
theorem lrInt_c (w : World) (g lo lim : Nat) (st : RS) (h : LR 75 lo lim w g st) (hg : rGood st) :
    Calls Try.prog 30 #[.pointer (some ⟨g, 0, none⟩)] w fun e w' => e = .returned (.int .i64 (IntKind.i64.wrap (rUint st).1)) ∧ LR 75 lo lim w' g (rUint st).2 ∧ But g w w' := by
  refine calls_of (l := [.pointer (some ⟨g, 0, none⟩)]) (N := 6) Try.func30 rfl rfl rfl ?_
  refine C_seq (C_region (RL_q rfl (Yd_assign rfl) (RL_nil (X_then (C_seq (C_region (RL_q rfl (Yd_move rfl) (RL_l rfl (Ld_call Try.func24 rfl (by kernel_rfl) rfl (lrUint_c _ g lo lim st h hg) ?_)))))))))
  rintro e W1 ⟨rfl, hL, hu1⟩
  refine ⟨_, rfl, ?_⟩
  refine RL_q rfl (Yd_conv ⟨_, Try.underlying28⟩ Try.underlying3 rfl rfl) (RL_q rfl (Yd_assign rfl) (RL_nil (X_then (C_ret (X_ret1 rfl rfl ?_)))))
  exact ⟨rfl, hL, hu1⟩
theorem lrLeft_0 (w : World) (g lo lim : Nat) (h : LR 75 lo lim w g (none)) :
    Calls Try.prog 26 #[.pointer (some ⟨g, 0, none⟩)] w fun e w' => e = .returned (.int .i64 (rLeft (none))) ∧ w = w' := by
  obtain ⟨hB, hl⟩ := h
  refine calls_of (l := [.pointer (some ⟨g, 0, none⟩)]) (N := 8) Try.func26 rfl rfl rfl ?_
  refine C_seq (C_region (RL_q rfl (Yd_assign rfl) (RL_nil (X_then (C_seq (C_region (RL_q rfl (Yd_move rfl) (RL_q rfl (Yd_nil rfl) (RL_q rfl (Yd_fld (off := 0) Try.underlying75 (by kernel_rfl) rfl) (RL_q rfl (Yd_load Try.underlying24 rfl rfl (ldB hB rfl)) (RL_q rfl (Yd_len Try.underlying24 rfl) (RL_q rfl (Yd_assign rfl) (RL_nil (X_then (C_ret (X_ret1 rfl rfl ?_))))))))))))))))
  exact ⟨rfl, rfl⟩
theorem lrLeft_1 (w : World) (g lo lim : Nat) (bs : List Int) (h : LR 75 lo lim w g (some bs)) :
    Calls Try.prog 26 #[.pointer (some ⟨g, 0, none⟩)] w fun e w' => e = .returned (.int .i64 (rLeft (some bs))) ∧ w = w' := by
  obtain ⟨⟨A, c, hB, hr, hc, hz, hlo⟩, hl⟩ := h
  refine calls_of (l := [.pointer (some ⟨g, 0, none⟩)]) (N := 8) Try.func26 rfl rfl rfl ?_
  refine C_seq (C_region (RL_q rfl (Yd_assign rfl) (RL_nil (X_then (C_seq (C_region (RL_q rfl (Yd_move rfl) (RL_q rfl (Yd_nil rfl) (RL_q rfl (Yd_fld (off := 0) Try.underlying75 (by kernel_rfl) rfl) (RL_q rfl (Yd_load Try.underlying24 rfl rfl (ldB hB rfl)) (RL_q rfl (Yd_len Try.underlying24 rfl) (RL_q rfl (Yd_assign rfl) (RL_nil (X_then (C_ret (X_ret1 rfl rfl ?_))))))))))))))))
  exact ⟨rfl, rfl⟩
theorem lrLeft_c (w : World) (g lo lim : Nat) (st : RS) (h : LR 75 lo lim w g st) : Calls Try.prog 26 #[.pointer (some ⟨g, 0, none⟩)] w fun e w' => e = .returned (.int .i64 (rLeft st)) ∧ w = w' := by
  cases st with
  | none => exact lrLeft_0 w g lo lim h
  | some bs => exact lrLeft_1 w g lo lim bs h
theorem lrErrno_0 (w : World) (g lo lim : Nat) (h : LR 75 lo lim w g (none)) :
    Calls Try.prog 28 #[.pointer (some ⟨g, 0, none⟩)] w fun e w' => e = .returned (.int .i64 (rErr (none))) ∧ w = w' := by
  obtain ⟨hB, hl⟩ := h
  refine calls_of (l := [.pointer (some ⟨g, 0, none⟩)]) (N := 7) Try.func28 rfl rfl rfl ?_
  refine C_seq (C_region (RL_q rfl (Yd_assign rfl) (RL_nil (X_then (C_seq (C_seq (C_region (RL_q rfl (Yd_move rfl) (RL_q rfl (Yd_nil rfl) (RL_q rfl (Yd_fld (off := 1) Try.underlying75 (by kernel_rfl) rfl) (RL_q rfl (Yd_load Try.underlying4 rfl rfl (ldB hB rfl)) (RL_nil (X_then (C_yes rfl rfl (C_seq (C_region (RL_q rfl (Yd_assign rfl) (RL_nil (X_then (C_ret (X_thenR (X_ret1 rfl rfl ?_))))))))))))))))))))))
  exact ⟨rfl, rfl⟩
theorem lrErrno_1 (w : World) (g lo lim : Nat) (bs : List Int) (h : LR 75 lo lim w g (some bs)) :
    Calls Try.prog 28 #[.pointer (some ⟨g, 0, none⟩)] w fun e w' => e = .returned (.int .i64 (rErr (some bs))) ∧ w = w' := by
  obtain ⟨⟨A, c, hB, hr, hc, hz, hlo⟩, hl⟩ := h
  refine calls_of (l := [.pointer (some ⟨g, 0, none⟩)]) (N := 7) Try.func28 rfl rfl rfl ?_
  refine C_seq (C_region (RL_q rfl (Yd_assign rfl) (RL_nil (X_then (C_seq (C_seq (C_region (RL_q rfl (Yd_move rfl) (RL_q rfl (Yd_nil rfl) (RL_q rfl (Yd_fld (off := 1) Try.underlying75 (by kernel_rfl) rfl) (RL_q rfl (Yd_load Try.underlying4 rfl rfl (ldB hB rfl)) (RL_nil (X_then (C_no rfl rfl (C_skip (X_then (C_seq (C_region (RL_q rfl (Yd_assign rfl) (RL_nil (X_then (C_ret (X_ret1 rfl rfl ?_)))))))))))))))))))))))
  exact ⟨rfl, rfl⟩
theorem lrErrno_c (w : World) (g lo lim : Nat) (st : RS) (h : LR 75 lo lim w g st) : Calls Try.prog 28 #[.pointer (some ⟨g, 0, none⟩)] w fun e w' => e = .returned (.int .i64 (rErr st)) ∧ w = w' := by
  cases st with
  | none => exact lrErrno_0 w g lo lim h
  | some bs => exact lrErrno_1 w g lo lim bs h
theorem lrEnd_0 (w : World) (g lo lim : Nat) (h : LR 75 lo lim w g (none)) :
    Calls Try.prog 33 #[.pointer (some ⟨g, 0, none⟩)] w fun e w' => e = .returned (.int .i64 (rEnd (none))) ∧ w = w' := by
  have h0 := h
  obtain ⟨hB, hl⟩ := h
  refine calls_of (l := [.pointer (some ⟨g, 0, none⟩)]) (N := 11) Try.func33 rfl rfl rfl ?_
  refine C_seq (C_region (RL_q rfl (Yd_assign rfl) (RL_nil (X_then (C_seq (C_seq (C_region (RL_q rfl (Yd_move rfl) (RL_q rfl (Yd_nil rfl) (RL_q rfl (Yd_fld (off := 0) Try.underlying75 (by kernel_rfl) rfl) (RL_q rfl (Yd_load Try.underlying24 rfl rfl (ldB hB rfl)) (RL_q rfl (Yd_len Try.underlying24 rfl) (RL_q rfl (Yd_gtr rfl rfl) (RL_nil (X_then (?_))))))))))))))))
  refine C_no rfl (decide_eq_false (by omega)) (C_skip (X_then (C_seq (C_region (RL_q rfl (Yd_move rfl) (RL_l rfl (Ld_call Try.func28 rfl (by kernel_rfl) rfl (lrErrno_c _ g lo lim none h0) ?_)))))))
  rintro e W1 ⟨rfl, rfl⟩
  refine ⟨_, rfl, ?_⟩
  refine RL_q rfl (Yd_assign rfl) (RL_nil (X_then (C_ret (X_ret1 rfl rfl ?_))))
  exact ⟨rfl, rfl⟩
theorem lrEnd_1 (w : World) (g lo lim : Nat) (bs : List Int) (h : LR 75 lo lim w g (some bs)) :
    Calls Try.prog 33 #[.pointer (some ⟨g, 0, none⟩)] w fun e w' => e = .returned (.int .i64 (rEnd (some bs))) ∧ w = w' := by
  have h0 := h
  obtain ⟨⟨A, c, hB, hr, hc, hz, hlo⟩, hl⟩ := h
  refine calls_of (l := [.pointer (some ⟨g, 0, none⟩)]) (N := 11) Try.func33 rfl rfl rfl ?_
  refine C_seq (C_region (RL_q rfl (Yd_assign rfl) (RL_nil (X_then (C_seq (C_seq (C_region (RL_q rfl (Yd_move rfl) (RL_q rfl (Yd_nil rfl) (RL_q rfl (Yd_fld (off := 0) Try.underlying75 (by kernel_rfl) rfl) (RL_q rfl (Yd_load Try.underlying24 rfl rfl (ldB hB rfl)) (RL_q rfl (Yd_len Try.underlying24 rfl) (RL_q rfl (Yd_gtr rfl rfl) (RL_nil (X_then (?_))))))))))))))))
  refine C_cond rfl (fun hb => ?_) (fun hb => ?_)
  · skip
    have hb : (0 : Int) < bs.length := of_decide_eq_true hb
    refine C_seq (C_region (RL_q rfl (Yd_assign rfl) (RL_nil (X_then (C_ret (X_thenR (X_ret1 rfl rfl ?_)))))))
    refine ⟨?_, rfl⟩
    simp only [rEnd]
    rw [if_neg (by omega)]
  · skip
    have hb : ¬ (0 : Int) < bs.length := of_decide_eq_false hb
    refine C_skip (X_then (C_seq (C_region (RL_q rfl (Yd_move rfl) (RL_l rfl (Ld_call Try.func28 rfl (by kernel_rfl) rfl (lrErrno_c _ g lo lim (some bs) h0) ?_))))))
    rintro e W1 ⟨rfl, rfl⟩
    refine ⟨_, rfl, ?_⟩
    refine RL_q rfl (Yd_assign rfl) (RL_nil (X_then (C_ret (X_ret1 rfl rfl ?_))))
    refine ⟨?_, rfl⟩
    simp only [rEnd, rErr]
    rw [if_pos (by omega)]
theorem lrEnd_c (w : World) (g lo lim : Nat) (st : RS) (h : LR 75 lo lim w g st) : Calls Try.prog 33 #[.pointer (some ⟨g, 0, none⟩)] w fun e w' => e = .returned (.int .i64 (rEnd st)) ∧ w = w' := by
  cases st with
  | none => exact lrEnd_0 w g lo lim h
  | some bs => exact lrEnd_1 w g lo lim bs h
theorem lrBytes_neg (w : World) (g lo lim : Nat) (st : RS) (m : Int) (h : LR 75 lo lim w g st) (hg : rGood st) (hm : m < 0) :
    Calls Try.prog 31 #[.pointer (some ⟨g, 0, none⟩), .int .i64 m] w fun e w' => ∃ A c, e = .returned (.slice A (rBytes m st).1.length c) ∧ Rd w' lim 1 A (rBytes m st).1.length (ints .u8 (rBytes m st).1) ∧ c = (rBytes m st).1.length ∧ (A = none → c = 0) ∧ (∀ ad, A = some ad → lo ≤ ad.block) ∧ LR 75 lo lim w' g (rBytes m st).2 ∧ But g w w' := by
  refine calls_of (l := [.pointer (some ⟨g, 0, none⟩), .int .i64 m]) (N := 25) Try.func31 rfl rfl rfl ?_
  refine C_seq (C_region (RL_q rfl (Yd_assign rfl) (RL_nil (X_then (C_seq (C_region (RL_q rfl (Yd_move rfl) (RL_l rfl (Ld_call Try.func24 rfl (by kernel_rfl) rfl (lrUint_c _ g lo lim st h hg) ?_)))))))))
  rintro e W1 ⟨rfl, hL, hu1⟩
  refine ⟨_, rfl, ?_⟩
  have hgood := rUint_good hg
  refine RL_q rfl (Yd_assign rfl) (RL_nil (X_then (C_seq (C_seq (C_region (RL_q rfl (Yd_move rfl) (RL_q rfl (Yd_lss rfl rfl) (RL_q rfl (Yd_move rfl) (?_)))))))))
  have hr : rBytes m st = rTake (rUint st).1 none := by simp only [rBytes]; rw [if_pos (.inl hm)]; rfl
  refine RL_is (d := 10) (b' := true) rfl (decide_eq_true hm) ?_
  refine RL_gn rfl rfl rfl rfl (RL_gn rfl rfl rfl rfl (RL_gn rfl rfl rfl rfl (RL_gn rfl rfl rfl rfl (RL_q rfl (Yd_pickT rfl rfl) (RL_nil (X_then (C_yes rfl rfl (C_region (RL_q rfl (Yd_move rfl) (RL_q rfl (Yd_move rfl) (RL_q rfl (Yd_nil rfl) (RL_q rfl (Yd_fld (off := 0) Try.underlying75 (by kernel_rfl) rfl) (?_)))))))))))))
  have hBX : ∃ v b, Blk W1 g 75 [v, b] := by
    cases hst : (rUint st).2 with
    | none => rw [hst] at hL; exact ⟨_, _, hL.1⟩
    | some bs => rw [hst] at hL; obtain ⟨⟨A, c, hB, _⟩, _⟩ := hL; exact ⟨_, _, hB⟩
  obtain ⟨v, b, hB⟩ := hBX
  have hl := h.lim
  refine RL_l0 (Ld_store (by kernel_rfl) rfl rfl hB (Nat.le_of_ble_eq_true rfl) (by simp [cellsL, Value.cells, Value.oneCell']) ?_)
  intro W2 hu2 hz2 hB1
  refine RL_q rfl (Yd_nil rfl) (RL_q rfl (Yd_fld (off := 1) Try.underlying75 (by kernel_rfl) rfl) (RL_l0 (Ld_store (by kernel_rfl) rfl rfl hB1 (Nat.le_of_ble_eq_true rfl) (by simp [cellsL, Value.cells, Value.oneCell']) ?_)))
  intro W3 hu3 hz3 hB2
  refine RL_nil (X_then (C_seq (C_region (RL_q rfl (Yd_move rfl) (RL_q rfl (Yd_move rfl) (?_))))))
  have hL2 : LR 75 lo lim W3 g none := ⟨hB2, hl⟩
  refine RL_l rfl (Ld_call Try.func50 rfl (by kernel_rfl) rfl (take_c _ g lo lim _ none hL2 trivial hgood.2.1) ?_)
  rintro e W4 ⟨A, c, rfl, hR, hc, hz, hq, hL3, hu4⟩
  refine ⟨_, rfl, ?_⟩
  refine RL_q rfl (Yd_assign rfl) (RL_nil (X_then (C_ret (X_ret1 rfl rfl ?_))))
  rw [hr] at *
  exact ⟨A, c, rfl, hR, hc, hz, hq, hL3, But.trans hu1 (But.trans hu2 (But.trans hu3 hu4))⟩
theorem lrBytes_big (w : World) (g lo lim : Nat) (st : RS) (m : Int) (h : LR 75 lo lim w g st) (hg : rGood st) (hm : 0 ≤ m) (hm1 : m ≤ 9223372036854775807) (hm2 : m < (rUint st).1) :
    Calls Try.prog 31 #[.pointer (some ⟨g, 0, none⟩), .int .i64 m] w fun e w' => ∃ A c, e = .returned (.slice A (rBytes m st).1.length c) ∧ Rd w' lim 1 A (rBytes m st).1.length (ints .u8 (rBytes m st).1) ∧ c = (rBytes m st).1.length ∧ (A = none → c = 0) ∧ (∀ ad, A = some ad → lo ≤ ad.block) ∧ LR 75 lo lim w' g (rBytes m st).2 ∧ But g w w' := by
  refine calls_of (l := [.pointer (some ⟨g, 0, none⟩), .int .i64 m]) (N := 25) Try.func31 rfl rfl rfl ?_
  refine C_seq (C_region (RL_q rfl (Yd_assign rfl) (RL_nil (X_then (C_seq (C_region (RL_q rfl (Yd_move rfl) (RL_l rfl (Ld_call Try.func24 rfl (by kernel_rfl) rfl (lrUint_c _ g lo lim st h hg) ?_)))))))))
  rintro e W1 ⟨rfl, hL, hu1⟩
  refine ⟨_, rfl, ?_⟩
  have hgood := rUint_good hg
  refine RL_q rfl (Yd_assign rfl) (RL_nil (X_then (C_seq (C_seq (C_region (RL_q rfl (Yd_move rfl) (RL_q rfl (Yd_lss rfl rfl) (RL_q rfl (Yd_move rfl) (?_)))))))))
  have hr : rBytes m st = rTake (rUint st).1 none := by simp only [rBytes]; rw [if_pos (.inr hm2)]; rfl
  refine RL_is (d := 10) (b' := false) rfl (decide_eq_false (by omega)) ?_
  refine RL_gq rfl rfl rfl (Yd_move rfl) (RL_gq rfl rfl rfl (Yd_move rfl) (RL_gq rfl rfl rfl (Yd_conv ⟨_, Try.underlying3⟩ Try.underlying28 rfl (u64w (by omega) (by omega))) (RL_gq rfl rfl rfl (Yd_gtr rfl rfl) (RL_q rfl (Yd_pickF rfl rfl) (RL_nil (X_then (?_)))))))
  refine C_yes rfl (decide_eq_true hm2) (C_region (RL_q rfl (Yd_move rfl) (RL_q rfl (Yd_move rfl) (RL_q rfl (Yd_nil rfl) (RL_q rfl (Yd_fld (off := 0) Try.underlying75 (by kernel_rfl) rfl) (?_))))))
  have hBX : ∃ v b, Blk W1 g 75 [v, b] := by
    cases hst : (rUint st).2 with
    | none => rw [hst] at hL; exact ⟨_, _, hL.1⟩
    | some bs => rw [hst] at hL; obtain ⟨⟨A, c, hB, _⟩, _⟩ := hL; exact ⟨_, _, hB⟩
  obtain ⟨v, b, hB⟩ := hBX
  have hl := h.lim
  refine RL_l0 (Ld_store (by kernel_rfl) rfl rfl hB (Nat.le_of_ble_eq_true rfl) (by simp [cellsL, Value.cells, Value.oneCell']) ?_)
  intro W2 hu2 hz2 hB1
  refine RL_q rfl (Yd_nil rfl) (RL_q rfl (Yd_fld (off := 1) Try.underlying75 (by kernel_rfl) rfl) (RL_l0 (Ld_store (by kernel_rfl) rfl rfl hB1 (Nat.le_of_ble_eq_true rfl) (by simp [cellsL, Value.cells, Value.oneCell']) ?_)))
  intro W3 hu3 hz3 hB2
  refine RL_nil (X_then (C_seq (C_region (RL_q rfl (Yd_move rfl) (RL_q rfl (Yd_move rfl) (?_))))))
  have hL2 : LR 75 lo lim W3 g none := ⟨hB2, hl⟩
  refine RL_l rfl (Ld_call Try.func50 rfl (by kernel_rfl) rfl (take_c _ g lo lim _ none hL2 trivial hgood.2.1) ?_)
  rintro e W4 ⟨A, c, rfl, hR, hc, hz, hq, hL3, hu4⟩
  refine ⟨_, rfl, ?_⟩
  refine RL_q rfl (Yd_assign rfl) (RL_nil (X_then (C_ret (X_ret1 rfl rfl ?_))))
  rw [hr] at *
  exact ⟨A, c, rfl, hR, hc, hz, hq, hL3, But.trans hu1 (But.trans hu2 (But.trans hu3 hu4))⟩
theorem lrBytes_ok (w : World) (g lo lim : Nat) (st : RS) (m : Int) (h : LR 75 lo lim w g st) (hg : rGood st) (hm : 0 ≤ m) (hm1 : m ≤ 9223372036854775807) (hm2 : (rUint st).1 ≤ m) :
    Calls Try.prog 31 #[.pointer (some ⟨g, 0, none⟩), .int .i64 m] w fun e w' => ∃ A c, e = .returned (.slice A (rBytes m st).1.length c) ∧ Rd w' lim 1 A (rBytes m st).1.length (ints .u8 (rBytes m st).1) ∧ c = (rBytes m st).1.length ∧ (A = none → c = 0) ∧ (∀ ad, A = some ad → lo ≤ ad.block) ∧ LR 75 lo lim w' g (rBytes m st).2 ∧ But g w w' := by
  refine calls_of (l := [.pointer (some ⟨g, 0, none⟩), .int .i64 m]) (N := 25) Try.func31 rfl rfl rfl ?_
  refine C_seq (C_region (RL_q rfl (Yd_assign rfl) (RL_nil (X_then (C_seq (C_region (RL_q rfl (Yd_move rfl) (RL_l rfl (Ld_call Try.func24 rfl (by kernel_rfl) rfl (lrUint_c _ g lo lim st h hg) ?_)))))))))
  rintro e W1 ⟨rfl, hL, hu1⟩
  refine ⟨_, rfl, ?_⟩
  have hgood := rUint_good hg
  refine RL_q rfl (Yd_assign rfl) (RL_nil (X_then (C_seq (C_seq (C_region (RL_q rfl (Yd_move rfl) (RL_q rfl (Yd_lss rfl rfl) (RL_q rfl (Yd_move rfl) (?_)))))))))
  have hr : rBytes m st = rTake (rUint st).1 (rUint st).2 := by simp only [rBytes]; rw [if_neg (by omega)]
  refine RL_is (d := 10) (b' := false) rfl (decide_eq_false (by omega)) ?_
  refine RL_gq rfl rfl rfl (Yd_move rfl) (RL_gq rfl rfl rfl (Yd_move rfl) (RL_gq rfl rfl rfl (Yd_conv ⟨_, Try.underlying3⟩ Try.underlying28 rfl (u64w (by omega) (by omega))) (RL_gq rfl rfl rfl (Yd_gtr rfl rfl) (RL_q rfl (Yd_pickF rfl rfl) (RL_nil (X_then (?_)))))))
  refine C_no rfl (decide_eq_false (by omega)) (C_skip (X_then (C_seq (C_region (RL_q rfl (Yd_move rfl) (RL_q rfl (Yd_move rfl) (RL_l rfl (Ld_call Try.func50 rfl (by kernel_rfl) rfl (take_c _ g lo lim _ _ hL hgood.1 hgood.2.1) ?_))))))))
  rintro e W2 ⟨A, c, rfl, hR, hc, hz, hq, hL3, hu2⟩
  refine ⟨_, rfl, ?_⟩
  refine RL_q rfl (Yd_assign rfl) (RL_nil (X_then (C_ret (X_ret1 rfl rfl ?_))))
  rw [hr] at *
  exact ⟨A, c, rfl, hR, hc, hz, hq, hL3, But.trans hu1 hu2⟩
theorem lrBytes_c (w : World) (g lo lim : Nat) (st : RS) (m : Int) (h : LR 75 lo lim w g st) (hg : rGood st) (hm1 : m ≤ 9223372036854775807) : Calls Try.prog 31 #[.pointer (some ⟨g, 0, none⟩), .int .i64 m] w fun e w' => ∃ A c, e = .returned (.slice A (rBytes m st).1.length c) ∧ Rd w' lim 1 A (rBytes m st).1.length (ints .u8 (rBytes m st).1) ∧ c = (rBytes m st).1.length ∧ (A = none → c = 0) ∧ (∀ ad, A = some ad → lo ≤ ad.block) ∧ LR 75 lo lim w' g (rBytes m st).2 ∧ But g w w' := by
  by_cases h1 : m < 0
  · exact lrBytes_neg w g lo lim st m h hg h1
  · by_cases h2 : m < (rUint st).1
    · exact lrBytes_big w g lo lim st m h hg (by omega) hm1 h2
    · exact lrBytes_ok w g lo lim st m h hg (by omega) hm1 (by omega)
theorem lrRead_c {B : Nat} (A : Option Addr) (n c : Nat) (bs : List Int) (w : World) (hr : Rd w B 1 A n (ints .u8 bs)) (hn : bs.length = n) (hnil : A = none → c = 0) (hs : n ≤ 60000) :
    Calls Try.prog 23 #[.slice A n c] w fun e w' => ∃ g lim, e = .returned (.pointer (some ⟨g, 0, none⟩)) ∧ w.heap.size ≤ lim ∧ LR 75 w.heap.size lim w' g (some bs) ∧ Ext w w' := by
  have hE := Ext.refl w
  refine calls_of (l := [.slice A n c]) (N := 7) Try.func23 rfl rfl rfl ?_
  refine C_seq (C_region (RL_q rfl (Yd_assign rfl) (RL_nil (X_then (C_seq (C_region (RL_q rfl (Yd_move rfl) (RL_l rfl (Ld_app Try.underlying24 Try.elt5 rfl (by decide) rfl rfl (Own.nil w w.heap.size 5 1) (hr.ext hE) (ints_one _ _) (by simp only [maxLen]; omega) (by omega) hE.size hnil (Nat.zero_add _) ?_)))))))))
  intro A2 c2 W1 hO hg1 hat1
  replace hE := ext_app (Own.nil w w.heap.size 5 1) hE hE.size hg1
  refine RL_q rfl (Yd_build Try.bld75 rfl rfl) (?_)
  have hO2 : Own W1 w.heap.size 5 1 A2 n c2 (ints .u8 bs) := hO
  have hsz := hE.size
  have hRd := hO2.rd
  refine RL_l rfl (Ld_box rfl ?_)
  intro W2 he2 hz2 hB
  replace hE := Ext.trans hE he2
  replace hO2 := hO2.ext he2
  replace hRd := hRd.ext he2
  refine RL_q rfl (Yd_assign rfl) (RL_nil (X_then (C_ret (X_ret1 rfl rfl ?_))))
  refine ⟨_, W1.heap.size, rfl, hsz, ⟨⟨A2, c2, ?_, ?_, ?_, ?_, ?_⟩, Nat.le_refl _⟩, hE⟩
  · rw [hn]; exact hB
  · rw [hn]; exact hRd
  · rw [hn]; exact hO2.cap.1
  · exact fun h => (hO2.none_ h).1
  · rintro ad rfl; exact (hO2.lt ad.block rfl).1

theorem u64_mod (n : Int) : IntKind.u64.wrap n % 256 ^ 8 = IntKind.u64.wrap n := by have := u64_range n; omega
theorem rUint_le8 (n : Int) (rest : List Int) : rUint (some (le8 n ++ rest)) = (IntKind.u64.wrap n, some rest) := by
  have h : (le8 n).length = 8 := le8_len n
  simp only [rUint, List.length_append, h]
  rw [if_pos (by omega), List.take_append_of_le_length (by omega), List.take_of_length_le (by omega), List.drop_append, List.drop_eq_nil_of_le (by omega), h]
  simp only [le8, leval_le, u64_mod, Nat.sub_self, List.drop_zero, List.nil_append]
theorem rBytes_text (s rest : List Int) (m : Int) (hm : (s.length : Int) ≤ m) (hs : s.length ≤ 60000) : rBytes m (some (text s ++ rest)) = (s, some rest) := by
  have hw : IntKind.u64.wrap (s.length : Int) = s.length := u64w (by omega) (by omega)
  simp only [rBytes, text, List.append_assoc, rUint_le8, hw]
  rw [if_neg (by omega)]
  simp only [rTake]
  rw [if_pos (by simp; omega)]
  simp
theorem rUint_short {bs : List Int} (h : bs.length < 8) : rUint (some bs) = (0, none) := by simp only [rUint]; rw [if_neg (by omega)]
theorem cut_text (s : List Int) (k : Nat) (h : k < (text s).length) (hs : s.length ≤ 20) : rBytes 20 (some ((text s).take k)) = ([], none) := by
  have ht : (text s).length = 8 + s.length := by simp [text]
  rcases Nat.lt_or_ge k 8 with h8 | h8
  · have h1 : ((text s).take k).length < 8 := by rw [List.length_take]; omega
    simp only [rBytes, rUint_short h1]
    rfl
  · have hw : IntKind.u64.wrap (s.length : Int) = s.length := u64w (by omega) (by omega)
    have h1 : (text s).take k = le8 s.length ++ s.take (k - 8) := by
      rw [text, List.take_append, List.take_of_length_le (by simp; omega), le8_len]
    rw [h1]
    simp only [rBytes, rUint_le8, hw]
    rw [if_neg (by omega)]
    simp only [rTake]
    rw [if_neg (by rw [List.length_take]; omega)]
theorem rBytes_none (m : Int) : rBytes m none = ([], none) := by
  unfold rBytes
  by_cases h : m < 0 ∨ m < (rUint none).1
  · rw [if_pos h]
  · rw [if_neg h]; rfl
theorem text_byt {s : List Int} (h : Byt s) : Byt (text s) := (le8_byt _).append h
/-- what LayRound lays -/
def flat (n : Int) (z : List (Int × List Int)) : List Int := z.flatMap fun p => le8 p.1 ++ (text (few p.2 20) ++ le8 n)
theorem flat_le (n : Int) (z : List (Int × List Int)) : (flat n z).length ≤ 44 * z.length := by
  induction z with
  | nil => simp [flat]
  | cons p z ih =>
    have := few_le p.2 20 (by omega)
    simp only [flat, List.flatMap_cons, List.length_append, le8_len, text, List.length_cons] at ih ⊢
    omega
theorem flat_take (n : Int) (z : List (Int × List Int)) (i : Nat) (h : i < z.length) : flat n (z.take (i + 1)) = flat n (z.take i) ++ (le8 z[i].1 ++ (text (few z[i].2 20) ++ le8 n)) := by
  unfold flat; rw [List.take_succ_eq_append_getElem h, List.flatMap_append]; simp only [List.flatMap_cons, List.flatMap_nil, List.append_nil]
theorem flat_drop (n : Int) (z : List (Int × List Int)) (i : Nat) (h : i < z.length) : flat n (z.drop i) = le8 z[i].1 ++ (text (few z[i].2 20) ++ (le8 n ++ flat n (z.drop (i + 1)))) := by
  unfold flat; rw [List.drop_eq_getElem_cons h]; simp only [List.flatMap_cons, List.append_assoc]
theorem flat_byt {n : Int} {z : List (Int × List Int)} (h : ∀ p ∈ z, Byt p.2) : Byt (flat n z) := fun b hb => by
  simp only [flat, List.mem_flatMap, List.mem_append] at hb
  obtain ⟨p, hp, hb⟩ := hb
  rcases hb with hb | hb | hb
  · exact le8_byt _ b hb
  · rw [text, List.mem_append] at hb
    rcases hb with hb | hb
    · exact le8_byt _ b hb
    · exact few_byt (h p hp) 20 b hb
  · exact le8_byt _ b hb
/-- pairs of numbers, one behind the other -/
def pairs (qs : List (Int × Int)) : List Value := qs.flatMap fun p => [.int .i64 p.1, .int .i64 p.2]
theorem pairs_get : ∀ (qs : List (Int × Int)) (i : Nat) (hi : i < qs.length), (pairs qs)[i * 2]? = some (.int .i64 qs[i].1) ∧ (pairs qs)[i * 2 + 1]? = some (.int .i64 qs[i].2) := by
  intro qs
  induction qs with
  | nil => intro i hi; simp at hi
  | cons q qs ih =>
    intro i hi
    cases i with
    | zero => exact ⟨rfl, rfl⟩
    | succ i =>
      obtain ⟨h1, h2⟩ := ih i (by simpa using hi)
      have e : (i + 1) * 2 = i * 2 + 1 + 1 := by omega
      simp only [pairs, List.flatMap_cons, List.cons_append, List.nil_append, e, List.getElem?_cons_succ, List.getElem_cons_succ] at h1 h2 ⊢
      exact ⟨h1, h2⟩
theorem pairs_cell0 {w : World} {B n i j k : Nat} {ad : Addr} {qs : List (Int × Int)} (h : Rd w B 2 (some ad) n (pairs qs)) (hi : i < qs.length) (hn : 0 < n) (hj : j = i * 2) (hk : k = 0) : w.cell? ((ad.add j).add k) = some (.int .i64 qs[i].1) := by
  obtain ⟨ad', e, _, hc⟩ := h.cells hn
  injection e with e
  subst e hj hk
  rw [add_add]
  exact hc _ _ (pairs_get qs i hi).1
theorem pairs_cell1 {w : World} {B n i j k : Nat} {ad : Addr} {qs : List (Int × Int)} (h : Rd w B 2 (some ad) n (pairs qs)) (hi : i < qs.length) (hn : 0 < n) (hj : j = i * 2) (hk : k = 1) : w.cell? ((ad.add j).add k) = some (.int .i64 qs[i].2) := by
  obtain ⟨ad', e, _, hc⟩ := h.cells hn
  injection e with e
  subst e hj hk
  rw [add_add]
  exact hc _ _ (pairs_get qs i hi).2

theorem rInt_le8 {n : Int} {rest : List Int} (h : -9223372036854775808 ≤ n ∧ n ≤ 9223372036854775807) : IntKind.i64.wrap (rUint (some (le8 n ++ rest))).1 = n ∧ (rUint (some (le8 n ++ rest))).2 = some rest := by
  rw [rUint_le8]
  exact ⟨i64_wrap_u64 n h.1 h.2, rfl⟩
theorem lrIntK {w : World} {g lo lim : Nat} {x : Int} {rest : List Int} (h : LR 75 lo lim w g (some (le8 x ++ rest))) (hg : rGood (some (le8 x ++ rest))) (hx : -9223372036854775808 ≤ x ∧ x ≤ 9223372036854775807) :
    Calls Try.prog 30 #[.pointer (some ⟨g, 0, none⟩)] w fun e w' => e = .returned (.int .i64 x) ∧ LR 75 lo lim w' g (some rest) ∧ rGood (some rest) ∧ Kp (fun k => k = g) w w' :=
  Calls.mono (lrInt_c w g lo lim _ h hg) fun e w' ⟨h1, h2, h3⟩ => ⟨by rw [h1, (rInt_le8 hx).1], by rw [(rInt_le8 hx).2] at h2; exact h2, by have := (rUint_good hg).1; rwa [(rInt_le8 hx).2] at this, Kp.of_but1 h3⟩
theorem lrEndK {w : World} {g lo lim : Nat} (h : LR 75 lo lim w g (some [])) : Calls Try.prog 33 #[.pointer (some ⟨g, 0, none⟩)] w fun e w' => e = .returned (.int .i64 0) ∧ w = w' := lrEnd_c w g lo lim _ h
theorem lrBytesK {w : World} {g lo lim : Nat} {d rest : List Int} {m : Int} (h : LR 75 lo lim w g (some (text d ++ rest))) (hg : rGood (some (text d ++ rest))) (hm : (d.length : Int) ≤ m) (hm1 : m ≤ 9223372036854775807) (hd : d.length ≤ 60000) (hy : Byt d) :
    Calls Try.prog 31 #[.pointer (some ⟨g, 0, none⟩), .int .i64 m] w fun e w' => ∃ A, e = .returned (.slice A d.length d.length) ∧ Vw tU8 w' lo lim A d.length d.length d ∧ LR 75 lo lim w' g (some rest) ∧ rGood (some rest) ∧ Kp (fun k => k = g) w w' :=
  Calls.mono (lrBytes_c w g lo lim _ m h hg hm1) fun e w' ⟨A, c, h1, h2, h3, h4, hq, h5, h6⟩ => by
    have hgd := (rBytes_good m hg).1
    rw [rBytes_text d rest m hm hd] at h1 h2 h3 h5 hgd
    subst h3
    exact ⟨A, h1, ⟨⟨by rw [cells_ints]; exact h2, Nat.le_refl _, h4, hq⟩, by simp only [maxLen]; omega, hy⟩, h5, hgd, Kp.of_but1 h6⟩
end Go.Proofs.AL
