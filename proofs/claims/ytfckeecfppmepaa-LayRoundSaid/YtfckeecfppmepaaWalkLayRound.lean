import Derived.Test.YtfckeecfppmepaaRdr
import Derived.Test.YtfckeecfppmepaaShp
set_option linter.unusedVariables false
namespace Go.Proofs.AL
open Go.RowKit
theorem LayRound_c (A0 : Option Addr) (n0 c0 : Nat) (l : List Int) (A1 : Option Addr) (n1 c1 : Nat) (ss : List Sl) (n : Int) (w : World) (hr0 : Rd w w.heap.size 1 A0 n0 (ints .i64 l)) (hn0 : l.length = n0) (hc0 : n0 ≤ c0) (hm0 : c0 ≤ maxLen) (hz0 : A0 = none → c0 = 0) (hlb : ∀ x ∈ l, -9223372036854775808 ≤ x ∧ x ≤ 9223372036854775807) (hr1 : Rd w w.heap.size 1 A1 n1 (slc ss)) (hsn : ss.length = n1) (hss : ∀ x ∈ ss, SlOk w .u8 x) (hb1 : 0 ≤ n) (hb2 : n ≤ 18446744073709551615) :
    Calls Try.prog 7 #[.slice A0 n0 c0, .slice A1 n1 c1, .int .u64 n] w fun e w' => e = .returned (.bool true) ∧ Ext w w' := by
  unfold maxLen at *
  obtain ⟨z, hzd⟩ : ∃ z, z = (l.zip (ss.map (·.2.2.2))).take 5 := ⟨_, rfl⟩
  have hzl : z.length = min (min n0 n1) 5 := by rw [hzd]; simp [hn0, hsn]; omega
  have hm1 : (if (5 : Int) < (n1 : Int) then (5 : Int) else (n1 : Int)) = ((min n1 5 : Nat) : Int) := by split <;> omega
  have hm2 : (if ((min n1 5 : Nat) : Int) < (n0 : Int) then ((min n1 5 : Nat) : Int) else (n0 : Int)) = (z.length : Int) := by split <;> omega
  have hzg : ∀ i (h : i < z.length), ∃ (h0 : i < l.length) (h1 : i < ss.length), z[i] = (l[i], ss[i].2.2.2) := fun i h => ⟨by omega, by omega, by subst hzd; simp⟩
  have hzb : ∀ p ∈ z, Byt p.2 := fun p hp => by
    obtain ⟨i, hi, rfl⟩ := List.mem_iff_getElem.1 hp
    obtain ⟨h0, h1, e⟩ := hzg i hi
    rw [e]
    exact fun y hy => bounds_u8 ((hss _ (List.getElem_mem h1)).2.2.2.2.2 y hy)
  have hE := Ext.refl w
  refine calls_of (l := [.slice A0 n0 c0, .slice A1 n1 c1, .int .u64 n]) (N := 85) Try.func7 rfl rfl rfl ?_
  refine C_seq (C_region (RL_q rfl (Yd_assign rfl) (RL_nil (X_then (C_seq (C_region (RL_q rfl (Yd_assign rfl) (RL_nil (X_then (C_seq (C_region (RL_q rfl (Yd_move rfl) (RL_q rfl (Yd_len Try.underlying22 rfl) (RL_q rfl (Yd_move rfl) (RL_q rfl (Yd_len Try.underlying49 rfl) (RL_q rfl (Yd_minw rfl rfl hm1) (RL_q rfl (Yd_minw rfl rfl hm2) (RL_q rfl (Yd_assign rfl) (RL_nil (X_then (C_seq (C_seq (C_region (RL_q rfl (Yd_assign rfl) (RL_nil (X_then (C_block (?_))))))))))))))))))))))))))))
  refine C_loop (T := Nat × Option Addr × Nat) (fun ⟨i, A', c'⟩ => [(0, .slice A0 n0 c0), (1, .slice A1 n1 c1), (2, .int .u64 n), (7, .slice A' (flat n (z.take i)).length c'), (8, .int .i64 z.length), (9, .int .i64 i)]) (fun ⟨i, A', c'⟩ w1 => i ≤ z.length ∧ (∃ B', Rd w1 B' 1 A' (flat n (z.take i)).length (ints .u8 (flat n (z.take i)))) ∧ (flat n (z.take i)).length ≤ c' ∧ (A' = none → c' = 0) ∧ Ext w w1) (fun ⟨i, A', c'⟩ => z.length - i) (⟨0, none, 0⟩) ⟨rfl, rfl, rfl, rfl, rfl, rfl, trivial⟩ ?_ ?_
  · exact ⟨by omega, ⟨0, Rd.none _ _ _⟩, Nat.le_refl _, fun _ => rfl, hE⟩
  · rintro ⟨i, A', c'⟩ w1 ⟨hi, ⟨B', hR⟩, hcc, hnn, hE⟩
    refine C_seq (C_seq (C_region (RL_q rfl (Yd_move rfl) (RL_q rfl (Yd_move rfl) (RL_q rfl (Yd_lss rfl rfl) (RL_nil (X_then (?_))))))))
    refine C_cond rfl (fun hb => ?_) (fun hb => ?_)
    · skip
      have hb : (i : Int) < z.length := of_decide_eq_true hb
      obtain ⟨h0, h1, hzi⟩ := hzg i (by omega)
      obtain ⟨ad0, rfl, _, _⟩ := hr0.cells (by omega)
      obtain ⟨ad1, rfl, _, _⟩ := hr1.cells (by omega)
      have hget0 := ints_get .i64 l i h0
      have hget1 := slc_get ss i h1
      have hx := hss _ (List.getElem_mem h1)
      have hx20 := few_le ss[i].2.2.2 20 (by omega)
      have hli := hlb _ (List.getElem_mem h0)
      have hfl := flat_le n (z.take i)
      have htl : (z.take i).length = i := by rw [List.length_take]; omega
      refine C_skip (X_then (C_seq (C_block (C_seq (C_region (RL_q rfl (Yd_move rfl) (RL_q rfl (Yd_move rfl) (RL_q rfl (Yd_move rfl) (RL_q rfl (Yd_idx Try.underlying22 (sz := 1) (by kernel_rfl) rfl rfl (by omega) (by omega)) (RL_q rfl (Yd_load Try.underlying3 rfl rfl (ldK (hr0.ext hE) (by omega) hget0 (by omega))) (RL_l rfl (Ld_lit Try.underlying22 rfl (lit_flat Try.underlying22 Try.elt3 rfl rfl ⟨rfl, by decide⟩) ?_))))))))))))
      intro W1 he1 hz1 hB
      replace hR := hR.ext he1
      replace hE := Ext.trans hE he1
      refine RL_l rfl (Ld_call Try.func15 rfl (by kernel_rfl) rfl (layInts_c A' _ _ c' _ _ (flat n (z.take i)) [l[i]] _ hR rfl hcc hnn (Blk.one hB) rfl (by omega)) ?_)
      rintro e W2 ⟨A3, c3, rfl, ⟨B3, hR3⟩, hc3, hn3, _, he2⟩
      refine ⟨_, rfl, ?_⟩
      replace hR := hR.ext he2
      replace hE := Ext.trans hE he2
      replace hB := hB.ext he2
      refine RL_q rfl (Yd_assign rfl) (RL_nil (X_then (C_seq (C_region (RL_q rfl (Yd_move rfl) (RL_q rfl (Yd_move rfl) (RL_q rfl (Yd_move rfl) (RL_q rfl (Yd_idx Try.underlying49 (sz := 1) (by kernel_rfl) rfl rfl (by omega) (by omega)) (RL_q rfl (Yd_load Try.underlying24 rfl rfl (ldK (hr1.ext hE) (by omega) hget1 (by omega))) (RL_l rfl (Ld_call Try.func17 rfl (by kernel_rfl) rfl (Few_c _ _ _ ss[i].2.2.2 20 _ (hx.1.ext hE) hx.2.1 hx.2.2.1 (by omega) (by omega) hx.2.2.2.2.1) ?_)))))))))))
      rintro e W3 ⟨A4, c4, rfl, hF, he3⟩
      refine ⟨_, rfl, ?_⟩
      replace hR := hR.ext he3
      replace hE := Ext.trans hE he3
      replace hB := hB.ext he3
      replace hR3 := hR3.ext he3
      refine RL_l rfl (Ld_call Try.func19 rfl (by kernel_rfl) rfl (layBytes_c A3 A4 _ c3 _ c4 _ (few ss[i].2.2.2 20) _ hR3 (by simp [le8s_len]) hc3 hn3 hF.rd rfl (fun h => (hF.none_ h).1) (by omega)) ?_)
      rintro e W4 ⟨A5, c5, rfl, hG, he4⟩
      refine ⟨_, rfl, ?_⟩
      replace hR := hR.ext he4
      replace hE := Ext.trans hE he4
      replace hB := hB.ext he4
      replace hR3 := hR3.ext he4
      replace hF := hF.ext he4
      refine RL_q rfl (Yd_assign rfl) (RL_nil (X_then (C_region (RL_q rfl (Yd_move rfl) (RL_q rfl (Yd_move rfl) (RL_l rfl (Ld_call Try.func18 rfl (by kernel_rfl) rfl (layUint_c A5 _ c5 _ n _ hG.rd (by simp [le8s_len]; omega) hG.cap.1 (by omega) (fun h => (hG.none_ h).1)) ?_)))))))
      rintro e W5 ⟨A6, c6, rfl, hH, he5⟩
      refine ⟨_, rfl, ?_⟩
      replace hR := hR.ext he5
      replace hE := Ext.trans hE he5
      replace hB := hB.ext he5
      replace hR3 := hR3.ext he5
      replace hF := hF.ext he5
      replace hG := hG.ext he5
      refine RL_q rfl (Yd_assign rfl) (RL_nil (X_block (X_then (C_region (RL_q rfl (Yd_move rfl) (RL_q rfl (Yd_add rfl rfl (i64w (by omega) (by omega))) (RL_q rfl (Yd_assign rfl) (RL_nil (?_)))))))))
      have hnext : ((flat n (z.take i) ++ le8s [l[i]]) ++ text (few ss[i].2.2.2 20)) ++ le 8 n = flat n (z.take (i + 1)) := by
        rw [flat_take n z i (by omega), hzi, le8_u64 hb1 hb2]; simp [le8s]
      have hlen : (flat n (z.take i)).length + 8 * 1 + 8 + (few ss[i].2.2.2 20).length + 8 = (flat n (z.take (i + 1))).length := by
        rw [← hnext]; simp [le8s_len]; omega
      refine X_again (⟨i + 1, A6, c6⟩) ⟨rfl, rfl, rfl, (lk_of rfl (congrArg (fun m => Value.slice A6 m c6) hlen)), rfl, rfl, trivial⟩ ?_ (by first | omega | (dsimp only; omega))
      have hcap := hH.cap.1
      have hrd := hH.rd
      rw [hnext, hlen] at hrd
      exact ⟨by omega, ⟨_, hrd⟩, by omega, fun h => (hH.none_ h).1, hE⟩
    · skip
      have hb : ¬ (i : Int) < z.length := of_decide_eq_false hb
      obtain rfl : i = z.length := by omega
      have htk : z.take z.length = z := List.take_of_length_le (Nat.le_refl _)
      have hfl := flat_le n (z.take z.length)
      have htl : (z.take z.length).length = z.length := by rw [htk]
      have hsz := hE.size
      refine C_exit (X_thenE (X_thenE (X_blockE (X_then (C_seq (C_region (RL_q rfl (Yd_move rfl) (RL_l rfl (Ld_call Try.func23 rfl (by kernel_rfl) rfl (lrRead_c A' _ c' (flat n (z.take z.length)) _ hR rfl hnn (by omega)) ?_)))))))))
      rintro e W1 ⟨g, lim, rfl, hlim, hL, he1⟩
      refine ⟨_, rfl, ?_⟩
      replace hR := hR.ext he1
      replace hE := Ext.trans hE he1
      have hgl := hL.lim
      rw [htk] at hL
      obtain ⟨lo, hlo⟩ : ∃ lo, lo = w1.heap.size := ⟨_, rfl⟩
      rw [← hlo] at hL
      refine RL_q rfl (Yd_assign rfl) (RL_nil (X_then (C_seq (C_seq (C_region (RL_q rfl (Yd_move rfl) (RL_q rfl (Yd_eqlPN Try.underlying39 rfl rfl) (RL_nil (X_then (C_no rfl rfl (C_skip (X_then (C_seq (C_seq (C_region (RL_q rfl (Yd_assign rfl) (RL_nil (X_then (C_block (?_))))))))))))))))))))
      refine C_loop (T := Nat) (fun i => [(0, .slice A0 n0 c0), (1, .slice A1 n1 c1), (2, .int .u64 n), (8, .int .i64 z.length), (10, .pointer (some ⟨g, 0, none⟩)), (11, .int .i64 i)]) (fun i w1 => i ≤ z.length ∧ LR 75 lo lim w1 g (some (flat n (z.drop i))) ∧ Ext w w1) (fun i => z.length - i) (0) ⟨rfl, rfl, rfl, rfl, rfl, rfl, trivial⟩ ?_ ?_
      · exact ⟨by omega, hL, hE⟩
      · rintro i w1 ⟨hi, hL, hE⟩
        refine C_seq (C_seq (C_region (RL_q rfl (Yd_move rfl) (RL_q rfl (Yd_move rfl) (RL_q rfl (Yd_lss rfl rfl) (RL_nil (X_then (?_))))))))
        refine C_cond rfl (fun hb => ?_) (fun hb => ?_)
        · skip
          have hb : (i : Int) < z.length := of_decide_eq_true hb
          obtain ⟨h0, h1, hzi⟩ := hzg i (by omega)
          obtain ⟨ad0, rfl, _, _⟩ := hr0.cells (by omega)
          obtain ⟨ad1, rfl, _, _⟩ := hr1.cells (by omega)
          have hget0 := ints_get .i64 l i h0
          have hget1 := slc_get ss i h1
          have hx := hss _ (List.getElem_mem h1)
          have hx20 := few_le ss[i].2.2.2 20 (by omega)
          have hli := hlb _ (List.getElem_mem h0)
          have hfd := flat_drop n z i (by omega)
          rw [hzi] at hfd
          have hgd : rGood (some (flat n (z.drop i))) := ⟨flat_byt (fun p hp => hzb p (List.mem_of_mem_drop hp)), by have := flat_le n (z.drop i); rw [List.length_drop] at this; omega⟩
          have hst1 : rUint (some (flat n (z.drop i))) = (IntKind.u64.wrap l[i], some (text (few ss[i].2.2.2 20) ++ (le8 n ++ flat n (z.drop (i + 1))))) := by rw [hfd]; exact rUint_le8 _ _
          have hst2 : rBytes 20 (some (text (few ss[i].2.2.2 20) ++ (le8 n ++ flat n (z.drop (i + 1))))) = (few ss[i].2.2.2 20, some (le8 n ++ flat n (z.drop (i + 1)))) := rBytes_text _ _ 20 (by omega) (by omega)
          have hst3 : rUint (some (le8 n ++ flat n (z.drop (i + 1)))) = (n, some (flat n (z.drop (i + 1)))) := by rw [rUint_le8, u64w hb1 hb2]
          have hg1 := (rUint_good hgd).1
          rw [hst1] at hg1
          have hg2 := (rBytes_good 20 hg1).1
          rw [hst2] at hg2
          refine C_skip (X_then (C_seq (C_block (C_seq (?_)))))
          refine C_regionD (fun k => k = g) (l := [(0, true), (2, true), (3, true), (4, true), (5, true), (1, false), (6, true), (7, true), (8, true), (11, true), (12, true), (13, true), (14, true), (9, false), (10, true), (15, false), (16, true), (17, true), (18, true), (19, true), (20, true), (22, true), (21, false), (23, true), (24, true)]) (by kernel_rfl) (by kernel_rfl) rfl (by kernel_rfl) (fun _ _ d _ _ h => by cases d <;> exact h) ?_
          intro W2 he2 hh2
          replace hL := hL.ext he2
          replace hE := Ext.trans hE he2
          refine RO_q rfl rfl (Yd_move rfl) (RO_q rfl rfl (Yd_move rfl) (RO_q rfl rfl (Yd_move rfl) (RO_q rfl rfl (Yd_idx Try.underlying22 (sz := 1) (by kernel_rfl) rfl rfl (by omega) (by omega)) (RO_q rfl rfl (Yd_load Try.underlying3 rfl rfl (fun W hW => ((hr0.ext hE).kpl hW (fun k hk => by obtain rfl := hk; omega)).cell1 hget0 (by omega))) (RO_l rfl rfl (Ld_call Try.func30 rfl (by kernel_rfl) rfl (lrInt_c _ g _ _ _ hL hgd) ?_))))))
          rintro e W3 ⟨rfl, hL, hu3⟩
          refine ⟨_, rfl, Kp.of_but hu3 rfl, ?_⟩
          replace hE := ext_but hE hu3 (by omega)
          rw [hst1] at hL ⊢
          rw [i64_wrap_u64 _ hli.1 hli.2]
          refine RO_q rfl rfl (Yd_neq rfl rfl) (RO_q rfl rfl (Yd_move rfl) (?_))
          refine RO_is (d := 56) (b' := false) rfl (by simp) ?_
          refine RO_gq rfl rfl rfl rfl (Yd_move rfl) (RO_gq rfl rfl rfl rfl (Yd_move rfl) (RO_gq rfl rfl rfl rfl (Yd_move rfl) (RO_gq rfl rfl rfl rfl (Yd_idx Try.underlying49 (sz := 1) (by kernel_rfl) rfl rfl (by omega) (by omega)) (RO_gq rfl rfl rfl rfl (Yd_load Try.underlying24 rfl rfl (fun W hW => ((hr1.ext hE).kpl hW (fun k hk => by obtain rfl := hk; omega)).cell1 hget1 (by omega))) (RO_gl rfl rfl rfl rfl (Ld_call Try.func31 rfl (by kernel_rfl) rfl (lrBytes_c _ g _ _ _ 20 hL hg1 (by omega)) ?_))))))
          rintro e W4 ⟨A8, c8, rfl, hX, hc8, hz8, hL, hu4⟩
          refine ⟨_, rfl, Kp.of_but hu4 rfl, ?_⟩
          replace hE := ext_but hE hu4 (by omega)
          rw [hst2] at hL hX ⊢
          have hgw := hL.lt
          refine RO_gq rfl rfl rfl rfl (Yd_str Try.underlying24 Try.underlying5 Try.underlying9 rfl (fun W hW => hX.kpl hW (fun k hk => by obtain rfl := hk; omega))) (RO_gl rfl rfl rfl rfl (Ld_call Try.func17 rfl (by kernel_rfl) rfl (Few_c _ _ _ ss[i].2.2.2 20 _ (hx.1.ext hE) hx.2.1 hx.2.2.1 (by omega) (by omega) hx.2.2.2.2.1) ?_))
          rintro e W5 ⟨A9, c9, rfl, hF, he5⟩
          refine ⟨_, rfl, Kp.of_ext he5, ?_⟩
          replace hL := hL.ext he5
          replace hE := Ext.trans hE he5
          refine RO_gq rfl rfl rfl rfl (Yd_str Try.underlying24 Try.underlying5 Try.underlying9 rfl (fun W hW => hF.rd.kp hW (fun ad h e => by have h1 := hF.lt' ad h; have h2 : ad.block = g := e; omega))) (RO_gq rfl rfl rfl rfl (Yd_neqS rfl rfl) (RO_q rfl rfl (Yd_pickF rfl rfl) (RO_q rfl rfl (Yd_move rfl) (?_))))
          refine RO_is (d := 68) (b' := false) rfl (by rw [str_eq rfl]; rfl) ?_
          refine RO_gq rfl rfl rfl rfl (Yd_move rfl) (RO_gq rfl rfl rfl rfl (Yd_move rfl) (RO_gl rfl rfl rfl rfl (Ld_call Try.func24 rfl (by kernel_rfl) rfl (lrUint_c _ g _ _ _ hL hg2) ?_)))
          rintro e W6 ⟨rfl, hL, hu6⟩
          refine ⟨_, rfl, Kp.of_but hu6 rfl, ?_⟩
          replace hE := ext_but hE hu6 (by omega)
          rw [hst3] at hL ⊢
          refine RO_gq rfl rfl rfl rfl (Yd_neq rfl rfl) (RO_q rfl rfl (Yd_pickF rfl rfl) (RO_nil (X_then (?_))))
          refine C_no rfl (by simp) (C_skip (X_block (X_then (C_region (RL_q rfl (Yd_move rfl) (RL_q rfl (Yd_add rfl rfl (i64w (by omega) (by omega))) (RL_q rfl (Yd_assign rfl) (RL_nil (?_)))))))))
          refine X_again (i + 1) ⟨rfl, rfl, rfl, rfl, rfl, rfl, trivial⟩ ?_ (by first | omega | (dsimp only; omega))
          exact ⟨by omega, hL, hE⟩
        · skip
          have hb : ¬ (i : Int) < z.length := of_decide_eq_false hb
          obtain rfl : i = z.length := by omega
          rw [List.drop_eq_nil_of_le (Nat.le_refl _)] at hL
          have hL : LR 75 lo lim w1 g (some []) := hL
          refine C_exit (X_thenE (X_thenE (X_blockE (X_then (C_seq (C_region (RL_q rfl (Yd_move rfl) (RL_l rfl (Ld_call Try.func33 rfl (by kernel_rfl) rfl (lrEnd_c _ g _ _ _ hL) ?_)))))))))
          rintro e W2 ⟨rfl, rfl⟩
          refine ⟨_, rfl, ?_⟩
          refine RL_q rfl (Yd_eql rfl rfl) (RL_q rfl (Yd_move rfl) (?_))
          refine RL_is (d := 77) (b' := true) rfl (rfl) ?_
          refine RL_gq rfl rfl rfl (Yd_move rfl) (RL_gl rfl rfl rfl (Ld_call Try.func26 rfl (by kernel_rfl) rfl (lrLeft_c _ g _ _ _ hL) ?_))
          rintro e W3 ⟨rfl, rfl⟩
          refine ⟨_, rfl, ?_⟩
          refine RL_gq rfl rfl rfl (Yd_eql rfl rfl) (RL_q rfl (Yd_pickT rfl rfl) (RL_q rfl (Yd_move rfl) (?_)))
          refine RL_is (d := 82) (b' := true) rfl (rfl) ?_
          refine RL_gl rfl rfl rfl (Ld_call Try.func16 rfl (by kernel_rfl) rfl (lives01_c _) ?_)
          rintro e W4 ⟨rfl, he4⟩
          refine ⟨_, rfl, ?_⟩
          replace hL := hL.ext he4
          replace hE := Ext.trans hE he4
          refine RL_q rfl (Yd_pickT rfl rfl) (RL_q rfl (Yd_assign rfl) (RL_nil (X_then (C_ret (X_ret1 rfl rfl ?_)))))
          exact ⟨rfl, hE⟩
end Go.Proofs.AL
