/- Walks: each says what one function of the program answers, for the arguments that its statement names. No condition beyond what each theorem says. -/
import Derived.Test.YtmolbagfkdbdnaaGreatDoorTopSilentW4
import Derived.Test.YtmolbagfkdbdnaaGreatDoorProg
import Derived.KernelRfl
import Derived.Tactics
import Derived.Tactics2
import Derived.StillTactics
import Derived.Shelf.SlSortCmp.Whole1
import Derived.Shelf.SlSortCmp.NoneTotal
import Derived.Shelf.Strconv.Atoi
set_option linter.unusedVariables false
set_option linter.unusedSimpArgs false
set_option maxRecDepth 4000
set_option maxHeartbeats 2000000
namespace Go.Proofs.YtmolbagfkdbdnaaGreatDoor
open Go Go.Av Go.Tq
theorem tHalts_con (c : List Mem) (hc : Cfg c) (s : Nat) (hs : s < 2 ^ c.length) : Con Tryz.prog 7 [cv c, .i s] [] (Is (.tup [.b (decide (((great c (((2 ^ c.length - 1) &&& (2 ^ 63 - 1 - s) : Nat) : Int) : Nat) : Int) = 0)), .i 0]) []) := by
  have hcap : capB = 140737488355328 := rfl
  have h10 := pow_le10 hc.len.2
  have hpos : 0 < 2 ^ c.length := Nat.pow_pos (by omega)
  have hml : (c.map mv).length = c.length := by simp
  have hp2 : 2 ^ (c.map mv).length = 2 ^ c.length := by rw [hml]
  have hl10 := hc.len.2
  refine con_intro Tryz.func7 rfl Tryz.call7 rfl ?_
  refine zW ?_; refine zW ?_
  refine zBx fun b2 => ?_
  iterate 9 refine zW ?_
  refine aops_call_v zRc (tasked_con c hc s hs) rfl rfl ?_
  iterate 9 refine zW ?_
  refine awp_cond_f rfl zDec ?_
  iterate 6 refine zW ?_
  refine aops_call_v zRc (thalts_con c hc s hs) rfl rfl ?_
  iterate 5 refine zW ?_
  (refine zPi ?_; exact rfl)
theorem tall_con (c : List Mem) (hc : Cfg c) : Con Tryz.prog 20 [cv c] [] (Is (.sl 1 ((allI c (2 ^ c.length)).map .i)) []) := by
  have hcap : capB = 140737488355328 := rfl
  have h10 := pow_le10 hc.len.2
  have hpos : 0 < 2 ^ c.length := Nat.pow_pos (by omega)
  have hml : (c.map mv).length = c.length := by simp
  have hp2 : 2 ^ (c.map mv).length = 2 ^ c.length := by rw [hml]
  have hl10 := hc.len.2
  refine con_intro Tryz.func20 rfl Tryz.call20 rfl ?_
  refine zW ?_; refine zW ?_
  refine zBx fun b1 => ?_
  iterate 13 refine zW ?_
  first | refine zLn fun _ => ?_ | refine zW ?_
  refine aops_p (ap_shl (p := 1) rfl rfl rfl (by omega) (by omega)) rfl rfl rfl ?_
  iterate 4 refine zW ?_
  refine awp_loop3 [1, 8] [.box b1 _ _] (fun (k : Nat) (v : Value) (q : List Int) r => (3, .v v) :: (9, .i (k : Int)) :: r) (fun k v q r => .arr v 3 1 (q.map .i) :: r) (fun k v q => k ≤ 2 ^ c.length ∧ q.length ≤ k ∧ q = allI c k) (fun k v q => 2 ^ c.length - k) (0) (.slice none 0 0) ([]) zRc ⟨by omega, by simp, rfl⟩ ((wk_own 3 1 rfl).trans (zWk)) ?_
  intro k v q ⟨hk, hql, hI⟩
  iterate 6 refine zW ?_
  refine zC (fun hc => ?_) fun hc => ?_
  · have hlt := of_decide_eq_true hc
    iterate 14 refine zW ?_
    refine aops_call_b zRc (quorum_con c k (by omega)) rfl rfl fun c14 hc14 => ?_
    refine zW ?_; refine zW ?_
    refine zC (fun hc => ?_) fun hc => ?_
    · iterate 3 refine zW ?_
      refine aops_lit (e := 3) (sz := 1) (by_ := 8) rfl rfl zRc rfl rfl rfl rfl ?_
      first | refine aops_append (e := 3) (sz := 1) (by_ := 8) rfl zUpd rfl rfl rfl rfl rfl (by simp only [List.length_cons, List.length_nil, List.length_append, List.length_map, avs_len]; omega) (fun v18 hv18 => ?_) | refine aops_append_nil (e := 3) (sz := 1) (by_ := 8) rfl rfl rfl rfl rfl rfl (by simp only [List.length_cons, List.length_nil, List.length_append, List.length_map, avs_len]; omega) (fun v18 hv18 => ?_)
      iterate 9 refine zW ?_
      first | (rw [mapi_snoc]; refine ⟨k + 1, _, q ++ [(k : Int)], ⟨by omega, by simp only [List.length_append, List.length_cons, List.length_nil]; omega, by rw [allI_t (hc14.trans (by with_reducible assumption)), ← hI]⟩, by omega, zWk⟩) | refine ⟨k + 1, _, q, ⟨by omega, by omega, by rw [allI_f (hc14.trans (by with_reducible assumption)), ← hI]⟩, by omega, zWk⟩
    · iterate 8 refine zW ?_
      first | (rw [mapi_snoc]; refine ⟨k + 1, _, q ++ [(k : Int)], ⟨by omega, by simp only [List.length_append, List.length_cons, List.length_nil]; omega, by rw [allI_t (hc14.trans (by with_reducible assumption)), ← hI]⟩, by omega, zWk⟩) | refine ⟨k + 1, _, q, ⟨by omega, by omega, by rw [allI_f (hc14.trans (by with_reducible assumption)), ← hI]⟩, by omega, zWk⟩
  · have hge := of_decide_eq_false hc
    iterate 6 refine zW ?_
    refine zFz v [3] ?_
    iterate 6 refine zW ?_
    refine post_is (.tmp rfl .nil) .nil ?_
    rw [hI, show k = 2 ^ c.length by omega]; rfl
theorem configO_con (b n : Nat) (l : List Int) (hn : 1 ≤ n ∧ n ≤ 10) (a : Nat) : Con Tryz.prog 14 [.p b 0, .i n] [.box b 62 [.sl 1 (l.map .i), .i ((a : Nat) : Int)]] (fun d H => ∃ (v : Value) (c : List Mem) (a' : Nat), d = .agg [.v v] ∧ (1 ≤ c.length ∧ c.length ≤ n ∧ ∀ x ∈ c, sizeT x.t ≤ 100000) ∧ H = [.arr v 64 4 (c.map mv), .box b 62 [.sl 1 (l.map .i), .i ((a' : Nat) : Int)]]) := by
  have hcap : capB = 140737488355328 := rfl
  refine con_intro Tryz.func14 rfl Tryz.call14 rfl ?_
  refine zW ?_; refine zW ?_
  refine zAl fun b4 => ?_
  iterate 6 refine zW ?_
  (refine aops_call zRc (Range_con _ _ _ _ _ (by omega)) zSplit rfl rfl ?_; rintro _ _ ⟨r12, a12, rfl, hr12, rfl⟩; obtain ⟨m, rfl⟩ := Int.eq_ofNat_of_zero_le (show 0 ≤ r12 by omega))
  iterate 6 refine zW ?_
  (refine aops_call zRc (N_con _ _ _ _ (by omega)) zSplit rfl rfl ?_; rintro _ _ ⟨r14, a14, rfl, hr14, rfl⟩)
  iterate 5 refine zW ?_
  refine zAl fun b7 => ?_
  iterate 9 refine zW ?_
  refine awp_loop4 [0, 4, 5, 6, 7] [.box b4 _ _] (fun (k : Nat) (v : Value) (c : List Mem) (a : Nat) r => (8, .i (k : Int)) :: r) (fun k v c a r => .box b7 27 [.v v] :: .arr v 64 4 (c.map mv) :: .box b 62 [.sl 1 (l.map .i), .i ((a : Nat) : Int)] :: r) (fun k v c a => k ≤ m ∧ c.length = k ∧ ∀ x ∈ c, sizeT x.t ≤ 100000) (fun k v c a => m - k) (0) (.slice none 0 0) ([]) (a14) zRc ⟨by omega, by simp, fun x h => absurd h List.not_mem_nil⟩ ((wk_own 64 4 rfl).trans (zWk)) ?_
  intro k v c a ⟨hk, hcl, hcm⟩
  have hml : (c.map mv).length = c.length := by simp
  iterate 8 refine zW ?_
  refine zC (fun hc => ?_) fun hc => ?_
  · have hlt := of_decide_eq_true hc
    iterate 6 refine zW ?_
    refine zAl fun b9 => ?_
    iterate 15 refine zW ?_
    refine zC (fun hc => ?_) fun hc => ?_
    · iterate 3 refine zW ?_
      (refine aops_call zRc (Trust2_con _ _ _ (by omega) _) zSplit rfl rfl ?_; rintro _ _ ⟨tt, a2, rfl, htt, rfl⟩)
      iterate 8 refine zW ?_
      (refine aops_call zRc (N_con _ _ _ _ (by omega)) zSplit rfl rfl ?_; rintro _ _ ⟨r36, a36, rfl, hr36, rfl⟩)
      iterate 3 refine zW ?_
      refine zC (fun hc => ?_) fun hc => ?_
      · iterate 5 refine zW ?_
        refine aops_unnil [0,4,5,6,7,8,39,40] 1 rfl rfl (by repeat (first | exact SelC.nil | apply SelC.cons rfl (Cv.agg (CvL.cons Cv.same (CvL.cons Cv.same (CvL.cons Cv.fz (CvL.cons Cv.same CvL.nil))))) | apply SelC.cons rfl Cv.same)) zHeapS ?_; refine aops_unnil [0,4,5,6,7,8,39,40] 3 rfl rfl zSelC zHeapS ?_; refine aops_lit (e := 64) (sz := 4) (by_ := 64) rfl rfl zRc rfl rfl rfl rfl ?_
        first | refine aops_append (e := 64) (sz := 4) (by_ := 64) rfl zUpd rfl rfl rfl rfl rfl (by simp only [List.length_cons, List.length_nil, List.length_append, List.length_map, avs_len]; omega) (fun v42 hv42 => ?_) | refine aops_append_nil (e := 64) (sz := 4) (by_ := 64) rfl rfl rfl rfl rfl rfl (by simp only [List.length_cons, List.length_nil, List.length_append, List.length_map, avs_len]; omega) (fun v42 hv42 => ?_)
        iterate 14 refine zW ?_
        first | (rw [show D.agg [.b false, .i 0, .sl 1 [], .sl 3 []] = mv ⟨false, Trust.none⟩ from rfl, mv_snoc]; refine ⟨k + 1, _, c ++ [⟨false, Trust.none⟩], _, ⟨by omega, by simp only [List.length_append, List.length_cons, List.length_nil]; omega, snoc_mem hcm (by show sizeT Trust.none ≤ _; decide)⟩, by omega, zWk⟩) | (rw [show D.agg [.b true, .i tt.th, .sl 1 (tt.nodes.map .i), .sl 3 (avs tt.inner)] = mv ⟨true, tt⟩ from rfl, mv_snoc]; refine ⟨k + 1, _, c ++ [⟨true, tt⟩], _, ⟨by omega, by simp only [List.length_append, List.length_cons, List.length_nil]; omega, snoc_mem hcm (by have h0 := htt.size; exact h0)⟩, by omega, zWk⟩)
      · iterate 7 refine zW ?_
        refine aops_lit (e := 64) (sz := 4) (by_ := 64) rfl rfl zRc rfl rfl rfl rfl ?_
        first | refine aops_append (e := 64) (sz := 4) (by_ := 64) rfl zUpd rfl rfl rfl rfl rfl (by simp only [List.length_cons, List.length_nil, List.length_append, List.length_map, avs_len]; omega) (fun v49 hv49 => ?_) | refine aops_append_nil (e := 64) (sz := 4) (by_ := 64) rfl rfl rfl rfl rfl rfl (by simp only [List.length_cons, List.length_nil, List.length_append, List.length_map, avs_len]; omega) (fun v49 hv49 => ?_)
        iterate 11 refine zW ?_
        first | (rw [show D.agg [.b false, .i 0, .sl 1 [], .sl 3 []] = mv ⟨false, Trust.none⟩ from rfl, mv_snoc]; refine ⟨k + 1, _, c ++ [⟨false, Trust.none⟩], _, ⟨by omega, by simp only [List.length_append, List.length_cons, List.length_nil]; omega, snoc_mem hcm (by show sizeT Trust.none ≤ _; decide)⟩, by omega, zWk⟩) | (rw [show D.agg [.b true, .i tt.th, .sl 1 (tt.nodes.map .i), .sl 3 (avs tt.inner)] = mv ⟨true, tt⟩ from rfl, mv_snoc]; refine ⟨k + 1, _, c ++ [⟨true, tt⟩], _, ⟨by omega, by simp only [List.length_append, List.length_cons, List.length_nil]; omega, snoc_mem hcm (by have h0 := htt.size; exact h0)⟩, by omega, zWk⟩)
    · iterate 6 refine zW ?_
      refine zC (fun hc => ?_) fun hc => ?_
      · iterate 3 refine zW ?_
        (refine aops_call zRc (most_con _ _ _ (by omega) _) zSplit rfl rfl ?_; rintro _ _ ⟨tt, a2, rfl, htt, rfl⟩)
        iterate 8 refine zW ?_
        (refine aops_call zRc (N_con _ _ _ _ (by omega)) zSplit rfl rfl ?_; rintro _ _ ⟨r36, a36, rfl, hr36, rfl⟩)
        iterate 3 refine zW ?_
        refine zC (fun hc => ?_) fun hc => ?_
        · iterate 5 refine zW ?_
          refine aops_unnil [0,4,5,6,7,8,39,40] 1 rfl rfl (by repeat (first | exact SelC.nil | apply SelC.cons rfl (Cv.agg (CvL.cons Cv.same (CvL.cons Cv.same (CvL.cons Cv.fz (CvL.cons Cv.same CvL.nil))))) | apply SelC.cons rfl Cv.same)) zHeapS ?_; refine aops_unnil [0,4,5,6,7,8,39,40] 3 rfl rfl zSelC zHeapS ?_; refine aops_lit (e := 64) (sz := 4) (by_ := 64) rfl rfl zRc rfl rfl rfl rfl ?_
          first | refine aops_append (e := 64) (sz := 4) (by_ := 64) rfl zUpd rfl rfl rfl rfl rfl (by simp only [List.length_cons, List.length_nil, List.length_append, List.length_map, avs_len]; omega) (fun v42 hv42 => ?_) | refine aops_append_nil (e := 64) (sz := 4) (by_ := 64) rfl rfl rfl rfl rfl rfl (by simp only [List.length_cons, List.length_nil, List.length_append, List.length_map, avs_len]; omega) (fun v42 hv42 => ?_)
          iterate 14 refine zW ?_
          first | (rw [show D.agg [.b false, .i 0, .sl 1 [], .sl 3 []] = mv ⟨false, Trust.none⟩ from rfl, mv_snoc]; refine ⟨k + 1, _, c ++ [⟨false, Trust.none⟩], _, ⟨by omega, by simp only [List.length_append, List.length_cons, List.length_nil]; omega, snoc_mem hcm (by show sizeT Trust.none ≤ _; decide)⟩, by omega, zWk⟩) | (rw [show D.agg [.b true, .i tt.th, .sl 1 (tt.nodes.map .i), .sl 3 (avs tt.inner)] = mv ⟨true, tt⟩ from rfl, mv_snoc]; refine ⟨k + 1, _, c ++ [⟨true, tt⟩], _, ⟨by omega, by simp only [List.length_append, List.length_cons, List.length_nil]; omega, snoc_mem hcm (by have h0 := htt.size; exact h0)⟩, by omega, zWk⟩)
        · iterate 7 refine zW ?_
          refine aops_lit (e := 64) (sz := 4) (by_ := 64) rfl rfl zRc rfl rfl rfl rfl ?_
          first | refine aops_append (e := 64) (sz := 4) (by_ := 64) rfl zUpd rfl rfl rfl rfl rfl (by simp only [List.length_cons, List.length_nil, List.length_append, List.length_map, avs_len]; omega) (fun v49 hv49 => ?_) | refine aops_append_nil (e := 64) (sz := 4) (by_ := 64) rfl rfl rfl rfl rfl rfl (by simp only [List.length_cons, List.length_nil, List.length_append, List.length_map, avs_len]; omega) (fun v49 hv49 => ?_)
          iterate 11 refine zW ?_
          first | (rw [show D.agg [.b false, .i 0, .sl 1 [], .sl 3 []] = mv ⟨false, Trust.none⟩ from rfl, mv_snoc]; refine ⟨k + 1, _, c ++ [⟨false, Trust.none⟩], _, ⟨by omega, by simp only [List.length_append, List.length_cons, List.length_nil]; omega, snoc_mem hcm (by show sizeT Trust.none ≤ _; decide)⟩, by omega, zWk⟩) | (rw [show D.agg [.b true, .i tt.th, .sl 1 (tt.nodes.map .i), .sl 3 (avs tt.inner)] = mv ⟨true, tt⟩ from rfl, mv_snoc]; refine ⟨k + 1, _, c ++ [⟨true, tt⟩], _, ⟨by omega, by simp only [List.length_append, List.length_cons, List.length_nil]; omega, snoc_mem hcm (by have h0 := htt.size; exact h0)⟩, by omega, zWk⟩)
      · iterate 4 refine zW ?_
        (refine aops_call zRc (group_con _ _ _ _ (by omega) _) zSplit rfl rfl ?_; rintro _ _ ⟨tt, a2, rfl, htt, rfl⟩)
        iterate 8 refine zW ?_
        (refine aops_call zRc (N_con _ _ _ _ (by omega)) zSplit rfl rfl ?_; rintro _ _ ⟨r36, a36, rfl, hr36, rfl⟩)
        iterate 3 refine zW ?_
        refine zC (fun hc => ?_) fun hc => ?_
        · iterate 5 refine zW ?_
          refine aops_unnil [0,4,5,6,7,8,39,40] 1 rfl rfl (by repeat (first | exact SelC.nil | apply SelC.cons rfl (Cv.agg (CvL.cons Cv.same (CvL.cons Cv.same (CvL.cons Cv.fz (CvL.cons Cv.same CvL.nil))))) | apply SelC.cons rfl Cv.same)) zHeapS ?_; refine aops_unnil [0,4,5,6,7,8,39,40] 3 rfl rfl zSelC zHeapS ?_; refine aops_lit (e := 64) (sz := 4) (by_ := 64) rfl rfl zRc rfl rfl rfl rfl ?_
          first | refine aops_append (e := 64) (sz := 4) (by_ := 64) rfl zUpd rfl rfl rfl rfl rfl (by simp only [List.length_cons, List.length_nil, List.length_append, List.length_map, avs_len]; omega) (fun v42 hv42 => ?_) | refine aops_append_nil (e := 64) (sz := 4) (by_ := 64) rfl rfl rfl rfl rfl rfl (by simp only [List.length_cons, List.length_nil, List.length_append, List.length_map, avs_len]; omega) (fun v42 hv42 => ?_)
          iterate 14 refine zW ?_
          first | (rw [show D.agg [.b false, .i 0, .sl 1 [], .sl 3 []] = mv ⟨false, Trust.none⟩ from rfl, mv_snoc]; refine ⟨k + 1, _, c ++ [⟨false, Trust.none⟩], _, ⟨by omega, by simp only [List.length_append, List.length_cons, List.length_nil]; omega, snoc_mem hcm (by show sizeT Trust.none ≤ _; decide)⟩, by omega, zWk⟩) | (rw [show D.agg [.b true, .i tt.th, .sl 1 (tt.nodes.map .i), .sl 3 (avs tt.inner)] = mv ⟨true, tt⟩ from rfl, mv_snoc]; refine ⟨k + 1, _, c ++ [⟨true, tt⟩], _, ⟨by omega, by simp only [List.length_append, List.length_cons, List.length_nil]; omega, snoc_mem hcm (by have h0 := htt.size; exact h0)⟩, by omega, zWk⟩)
        · iterate 7 refine zW ?_
          refine aops_lit (e := 64) (sz := 4) (by_ := 64) rfl rfl zRc rfl rfl rfl rfl ?_
          first | refine aops_append (e := 64) (sz := 4) (by_ := 64) rfl zUpd rfl rfl rfl rfl rfl (by simp only [List.length_cons, List.length_nil, List.length_append, List.length_map, avs_len]; omega) (fun v49 hv49 => ?_) | refine aops_append_nil (e := 64) (sz := 4) (by_ := 64) rfl rfl rfl rfl rfl rfl (by simp only [List.length_cons, List.length_nil, List.length_append, List.length_map, avs_len]; omega) (fun v49 hv49 => ?_)
          iterate 11 refine zW ?_
          first | (rw [show D.agg [.b false, .i 0, .sl 1 [], .sl 3 []] = mv ⟨false, Trust.none⟩ from rfl, mv_snoc]; refine ⟨k + 1, _, c ++ [⟨false, Trust.none⟩], _, ⟨by omega, by simp only [List.length_append, List.length_cons, List.length_nil]; omega, snoc_mem hcm (by show sizeT Trust.none ≤ _; decide)⟩, by omega, zWk⟩) | (rw [show D.agg [.b true, .i tt.th, .sl 1 (tt.nodes.map .i), .sl 3 (avs tt.inner)] = mv ⟨true, tt⟩ from rfl, mv_snoc]; refine ⟨k + 1, _, c ++ [⟨true, tt⟩], _, ⟨by omega, by simp only [List.length_append, List.length_cons, List.length_nil]; omega, snoc_mem hcm (by have h0 := htt.size; exact h0)⟩, by omega, zWk⟩)
  · have hge := of_decide_eq_false hc
    iterate 12 refine zW ?_
    refine post_ret (.cell rfl zUpd rfl rfl .nil) zKeep ⟨v, c, _, rfl, ⟨by omega, by omega, hcm⟩, rfl⟩
theorem take_decl {q : List Mem} {k : Nat} {x : Mem} (hk : k < q.length) (h : ∀ m ∈ q.take k, m.decl = true) (hx : x.decl = true) : ∀ m ∈ (q.set k x).take (k + 1), m.decl = true := by
  intro m hm
  obtain ⟨i, hi⟩ := List.getElem?_of_mem hm
  rw [List.getElem?_take] at hi
  split at hi
  · rw [List.getElem?_set] at hi
    split at hi
    · first
      | (cases hi; exact hx)
      | (split at hi
         · cases hi; exact hx
         · cases hi)
    · exact h m (List.mem_of_getElem? (i := i) (by rw [List.getElem?_take, if_pos (by omega)]; exact hi))
  · cases hi
theorem take_decl2 {q : List Mem} {k : Nat} {x : Mem} (h : ∀ m ∈ q.take k, m.decl = true) (hx : q[k]? = some x) (hd : x.decl = true) : ∀ m ∈ q.take (k + 1), m.decl = true := by
  intro m hm
  obtain ⟨i, hi⟩ := List.getElem?_of_mem hm
  rw [List.getElem?_take] at hi
  split at hi
  · by_cases e : i = k
    · subst e; rw [hx] at hi; cases hi; exact hd
    · exact h m (List.mem_of_getElem? (i := i) (by rw [List.getElem?_take, if_pos (by omega)]; exact hi))
  · cases hi
theorem full_con (b : Nat) (l : List Int) (a : Nat) : Con Tryz.prog 5 [.p b 0, .i 5] [.box b 62 [.sl 1 (l.map .i), .i ((a : Nat) : Int)]] (fun d H => ∃ (c : List Mem) (a' : Nat), d = cv c ∧ (Cfg c ∧ c.length ≤ 5) ∧ H = [.box b 62 [.sl 1 (l.map .i), .i ((a' : Nat) : Int)]]) := by
  have hcap : capB = 140737488355328 := rfl
  refine con_intro Tryz.func5 rfl Tryz.call5 rfl ?_
  refine zW ?_; refine zW ?_
  refine zAl fun b4 => ?_
  iterate 6 refine zW ?_
  (refine aops_call zRc (configO_con b 5 l (by omega) a) zSplit rfl rfl ?_; rintro _ _ ⟨v9, c9, a9, rfl, ⟨hl1, hl5, hsz⟩, rfl⟩)
  refine zAl fun b5 => ?_
  iterate 5 refine zW ?_
  refine awp_loop2 [4, 5] [.box b4 _ _, .box b _ _] (fun (v : Value) (c : List Mem) r => r) (fun v c r => .box b5 27 [.v v] :: .arr v 64 4 (c.map mv) :: r) (fun v c => 1 ≤ c.length ∧ c.length ≤ 5 ∧ ∀ x ∈ c, sizeT x.t ≤ 100000) (fun v c => 2 - c.length) (v9) (c9) zRc ⟨hl1, hl5, hsz⟩ (zWk) ?_
  intro v c ⟨h1, h5, hcs⟩
  have hqm : (c.map mv).length = c.length := by simp
  iterate 5 refine zW ?_
  first | refine zLn fun _ => ?_ | refine zW ?_
  iterate 3 refine zW ?_
  refine zC (fun hc => ?_) fun hc => ?_
  · have hlt := of_decide_eq_true hc
    iterate 7 refine zW ?_
    refine aops_unnil [4,5,15,16] 1 rfl rfl (by repeat (first | exact SelC.nil | apply SelC.cons rfl (Cv.agg (CvL.cons Cv.same (CvL.cons Cv.same (CvL.cons Cv.fz (CvL.cons Cv.same CvL.nil))))) | apply SelC.cons rfl Cv.same)) zHeapS ?_; refine aops_unnil [4,5,15,16] 3 rfl rfl zSelC zHeapS ?_; refine aops_lit (e := 64) (sz := 4) (by_ := 64) rfl rfl zRc rfl rfl rfl rfl ?_
    first | refine aops_append (e := 64) (sz := 4) (by_ := 64) rfl zUpd rfl rfl rfl rfl rfl (by simp only [List.length_cons, List.length_nil, List.length_append, List.length_map]; omega) (fun v18 hv18 => ?_) | refine aops_append_nil (e := 64) (sz := 4) (by_ := 64) rfl rfl rfl rfl rfl rfl (by simp only [List.length_cons, List.length_nil, List.length_append, List.length_map]; omega) (fun v18 hv18 => ?_)
    iterate 5 refine zW ?_
    rw [show D.agg [.b false, .i 0, .sl 1 [], .sl 3 []] = mv ⟨false, Trust.none⟩ from rfl, mv_snoc]
    refine ⟨_, c ++ [⟨false, Trust.none⟩], ⟨by simp only [List.length_append, List.length_cons, List.length_nil]; omega, by simp only [List.length_append, List.length_cons, List.length_nil]; omega, snoc_mem hcs (by show sizeT Trust.none ≤ _; decide)⟩, by simp only [List.length_append, List.length_cons, List.length_nil]; omega, zWk⟩
  · have hge := of_decide_eq_false hc
    iterate 7 refine zW ?_
    refine awp_arr_open zUpd (by intro e; have h5 := congrArg List.length e; simp only [List.length_map, List.length_nil] at h5; omega) (fun g cap hv => ?_)
    subst hv
    iterate 3 refine zW ?_
    first | refine zLn fun _ => ?_ | refine zW ?_
    iterate 4 refine zW ?_
    refine awp_loop2 [4, 5, 22] [.box b4 _ _, .box b _ _, .box b5 _ _] (fun (k : Nat) (q : List Mem) r => (23, .i (k : Int)) :: r) (fun k q r => .arr (.slice (some ⟨g, 0, none⟩) (c.map mv).length cap) 64 4 (q.map mv) :: r) (fun k q => k ≤ q.length ∧ q.length = c.length ∧ (∀ m ∈ q.take k, m.decl = true) ∧ ∀ m ∈ q, sizeT m.t ≤ 100000) (fun k q => c.length - k) (0) (c) zRc ⟨by omega, rfl, by simp, hcs⟩ (zWk) ?_
    intro k q ⟨hk, hql, hqd, hqs⟩
    have hqm2 : (q.map mv).length = q.length := by simp
    iterate 6 refine zW ?_
    refine zC (fun hc => ?_) fun hc => ?_
    · have hlt := of_decide_eq_true hc
      obtain ⟨y, hy, _⟩ := drop_cons (l := q) (k := k) (by omega)
      have hyy := getMap mv hy
      iterate 17 refine zW ?_
      refine aops_q (aq_load_ownF1 (off := 0) rfl zUpd List.not_mem_nil rfl hyy zRc) rfl rfl rfl ?_
      iterate 3 refine zW ?_
      refine zC (fun hc => ?_) fun hc => ?_
      · refine zDr [.arr _ _ _ _, .box b5 _ _] ?_
        refine zT 0 ?_
        refine zT 2 ?_
        refine zT 3 ?_
        refine zT 4 ?_
        refine zT 5 ?_
        refine zT 6 ?_
        refine zE2 1 7 ?_ ?_
        rotate_left
        case' _ =>
          refine zW ?_; refine zW ?_
          refine zT 8 ?_
          refine aany_take 9 rfl zGd zKr zKr zKr (AP.ar (ap_remn rfl rfl (by omega))) rfl rfl ?_
          refine zE2 1 10 ?_ ?_
          rotate_left
          case' _ =>
            refine aops_lit (e := 3) (sz := 1) (by_ := 8) rfl rfl zRc rfl rfl rfl rfl ?_
            refine zW ?_
            refine zT 11 ?_
            refine zT 12 ?_
            refine zOn 1 ?_
            refine zW ?_; refine zW ?_
            refine zT 13 ?_
            refine zOn 14 ?_
            refine aops_unnil [4,5,22,23,45,46] 3 rfl rfl zSelC zHeapS ?_; refine aops_store_ownF (off := 0) rfl rfl zFlat zUpd rfl hyy zRc ?_
            refine zW ?_; refine zW ?_
          rotate_right
          case' _ =>
            refine zW ?_; refine zW ?_
            refine zOn 10 ?_
            refine aops_lit (e := 3) (sz := 1) (by_ := 8) rfl rfl zRc rfl rfl rfl rfl ?_
            refine zW ?_
            refine zT 11 ?_
            refine zT 12 ?_
            refine zT 13 ?_
            refine zOn 14 ?_
            refine aops_unnil [4,5,22,23,45,46] 3 rfl rfl zSelC zHeapS ?_; refine aops_store_ownF (off := 0) rfl rfl zFlat zUpd rfl hyy zRc ?_
            refine zW ?_; refine zW ?_
        rotate_right
        case' _ =>
          refine zW ?_; refine zW ?_
          refine zOn 7 ?_
          refine zW ?_; refine zW ?_
          refine zT 8 ?_
          refine aany_take 9 rfl zGd zKr zKr zKr (AP.ar (ap_remn rfl rfl (by omega))) rfl rfl ?_
          refine zOn 10 ?_
          refine aops_lit (e := 3) (sz := 1) (by_ := 8) rfl rfl zRc rfl rfl rfl rfl ?_
          refine zW ?_
          refine zT 11 ?_
          refine zT 12 ?_
          refine zT 13 ?_
          refine zOn 14 ?_
          refine aops_unnil [4,5,22,23,45,46] 3 rfl rfl zSelC zHeapS ?_; refine aops_store_ownF (off := 0) rfl rfl zFlat zUpd rfl hyy zRc ?_
          refine zW ?_; refine zW ?_
        all_goals (
          iterate 7 refine zW ?_
          first
          | (rw [show D.agg [.b true, .i 1, .sl 1 [.i (k : Int), .i (((k : Int) + 1) % ((q.map mv).length : Int))], .sl 3 []] = mv ⟨true, .mk 1 [(k : Int), ((k : Int) + 1) % ((q.map mv).length : Int)] []⟩ from rfl, ← List.map_set]; refine ⟨k + 1, q.set k ⟨true, .mk 1 [(k : Int), ((k : Int) + 1) % ((q.map mv).length : Int)] []⟩, ⟨by rw [List.length_set]; omega, by rw [List.length_set]; exact hql, take_decl (by omega) hqd rfl, set_all hqs (by show sizeT (Trust.mk _ _ _) ≤ _; simp [sizeT_mk, sizeL])⟩, by omega, ?_⟩; exact (zWk))
          | (refine ⟨k + 1, q, ⟨by omega, hql, take_decl2 hqd hy (not_f hc), hqs⟩, by omega, zWk⟩)
          )
      · iterate 8 refine zW ?_
        first
        | (rw [show D.agg [.b true, .i 1, .sl 1 [.i (k : Int), .i (((k : Int) + 1) % ((q.map mv).length : Int))], .sl 3 []] = mv ⟨true, .mk 1 [(k : Int), ((k : Int) + 1) % ((q.map mv).length : Int)] []⟩ from rfl, ← List.map_set]; refine ⟨k + 1, q.set k ⟨true, .mk 1 [(k : Int), ((k : Int) + 1) % ((q.map mv).length : Int)] []⟩, ⟨by rw [List.length_set]; omega, by rw [List.length_set]; exact hql, take_decl (by omega) hqd rfl, set_all hqs (by show sizeT (Trust.mk _ _ _) ≤ _; simp [sizeT_mk, sizeL])⟩, by omega, ?_⟩; exact (zWk))
        | (refine ⟨k + 1, q, ⟨by omega, hql, take_decl2 hqd hy (not_f hc), hqs⟩, by omega, zWk⟩)
    · have hge := of_decide_eq_false hc
      iterate 7 refine zW ?_
      refine zFz (.slice (some ⟨g, 0, none⟩) (c.map mv).length cap) [4,5] ?_
      refine zW ?_; refine zW ?_
      refine aops_call_v zRc (r6valid_con q (fun m hm => by have := hqs m hm; omega)) rfl rfl ?_
      iterate 3 refine zW ?_
      refine zC (fun hc => ?_) fun hc => ?_
      · refine zW ?_; refine zW ?_
        refine aops_lit (e := 3) (sz := 1) (by_ := 8) rfl rfl zRc rfl rfl rfl rfl ?_
        refine zW ?_; refine zW ?_
        refine aops_unnil [4,53] 3 rfl rfl zSelC zHeapS ?_; refine aops_lit (e := 64) (sz := 4) (by_ := 64) rfl rfl zRc rfl rfl rfl rfl ?_
        iterate 6 refine zW ?_
        refine post_ret (.cell rfl zUpd rfl rfl .nil) zKeep ⟨[loneM], _, rfl, ⟨cfg_lone, by decide⟩, rfl⟩
      · have hv := of_neq_false hc
        iterate 9 refine zW ?_
        refine post_ret (.cell rfl zUpd rfl rfl .nil) zKeep ⟨q, _, rfl, ⟨Cfg.of (by omega) (fun m hm => hqd m (by rw [List.take_of_length_le (by omega)]; exact hm)) hv, by omega⟩, rfl⟩
theorem any_f {α : Type} {p : α → Bool} {x : α} {r : List α} (h : p x = false) : (x :: r).any p = r.any p := by simp [h]
theorem any_t {α : Type} {p : α → Bool} {x : α} {r : List α} (h : p x = true) : (x :: r).any p = true := by simp [h]
theorem cmpC_self (x : Cl) : cmpC x x = 0 := by simp [cmpC, cmpZ]
theorem rep_get {x : Cl} {n k : Nat} (h : k < n) : ((List.replicate n x).map clv)[k]? = some (clv x) := by rw [List.getElem?_map, List.getElem?_replicate, if_pos h]; rfl
theorem rep_len (x : Cl) (n : Nat) : ((List.replicate n x).map clv).length = n := by simp
theorem rep_snoc (x : Cl) (n m : Nat) : (List.replicate n x).map clv ++ (List.replicate m x).map clv = (List.replicate (n + m) x).map clv := by rw [← List.map_append, List.replicate_append_replicate]
theorem u64n {n : Nat} (h : n < 1000) : IntKind.u64.wrap (n : Int) = n := by simp [IntKind.wrap, IntKind.bits, IntKind.signed]; omega
theorem clc_con (l : List Cl) (hl : l.length ≤ 1000000) : Con Tryz.prog 55 [.sl 2 (l.map clv)] [] (Is (.sl 2 (l.map clv)) []) := by
  have hcap : capB = 140737488355328 := rfl
  have hl1 : (l.map clv).length = l.length := by simp
  refine con_intro Tryz.func55 rfl Tryz.call55 rfl ?_
  iterate 9 refine zW ?_
  refine aops_eqnil rfl rfl rfl rfl rfl (fun c4 hnil4 => ?_)
  refine zW ?_; refine zW ?_
  refine zC (fun hc => ?_) fun hc => ?_
  · iterate 5 refine zW ?_
    have e : l = [] := by simpa using hnil4 hc
    subst e
    refine awp_own 36 2 rfl ?_
    refine zFz (.slice none 0 0) [2] ?_
    refine zW ?_; refine zW ?_
    refine post_is (.tmp rfl .nil) .nil ?_
    rfl
  · iterate 4 refine zW ?_
    refine aops_own (e := 36) (sz := 2) (by_ := 16) rfl rfl zRc rfl rfl rfl rfl (fun v5 hv5 => ?_)
    refine zW ?_
    first | refine aops_append (e := 36) (sz := 2) (by_ := 16) rfl zUpd rfl rfl rfl rfl rfl (by simp only [List.length_cons, List.length_nil, List.length_append, List.length_map, avs_len]; omega) (fun v7 hv7 => ?_) | refine aops_append_nil (e := 36) (sz := 2) (by_ := 16) rfl rfl rfl rfl rfl rfl (by simp only [List.length_cons, List.length_nil, List.length_append, List.length_map, avs_len]; omega) (fun v7 hv7 => ?_)
    iterate 3 refine zW ?_
    refine zFz v7 [2] ?_
    refine zW ?_
    refine post_is (.tmp rfl .nil) .nil ?_
    rfl
theorem clcO_con (l : List Cl) (hl : l.length ≤ 1000000) : Con Tryz.prog 55 [.sl 2 (l.map clv)] [] (fun d H => ∃ v, d = .v v ∧ H = [.arr v 36 2 (l.map clv)]) := by
  have hcap : capB = 140737488355328 := rfl
  have hl1 : (l.map clv).length = l.length := by simp
  refine con_intro Tryz.func55 rfl Tryz.call55 rfl ?_
  iterate 9 refine zW ?_
  refine aops_eqnil rfl rfl rfl rfl rfl (fun c4 hnil4 => ?_)
  refine zW ?_; refine zW ?_
  refine zC (fun hc => ?_) fun hc => ?_
  · iterate 5 refine zW ?_
    have e : l = [] := by simpa using hnil4 hc
    subst e
    refine awp_own 36 2 rfl ?_
    refine zW ?_; refine zW ?_
    refine post_ret (.tmp rfl .nil) zKeep ⟨_, rfl, rfl⟩
  · iterate 4 refine zW ?_
    refine aops_own (e := 36) (sz := 2) (by_ := 16) rfl rfl zRc rfl rfl rfl rfl (fun v5 hv5 => ?_)
    refine zW ?_
    first | refine aops_append (e := 36) (sz := 2) (by_ := 16) rfl zUpd rfl rfl rfl rfl rfl (by simp only [List.length_cons, List.length_nil, List.length_append, List.length_map, avs_len]; omega) (fun v7 hv7 => ?_) | refine aops_append_nil (e := 36) (sz := 2) (by_ := 16) rfl rfl rfl rfl rfl rfl (by simp only [List.length_cons, List.length_nil, List.length_append, List.length_map, avs_len]; omega) (fun v7 hv7 => ?_)
    iterate 4 refine zW ?_
    refine post_ret (.tmp rfl .nil) zKeep ⟨_, rfl, rfl⟩
theorem indexFC_con (b7 ty7 : Nat) (d7 : List D) (f : FuncId) (p : Cl → Bool) (l : List Cl) (hf : ∀ k, k ∈ l → Con Tryz.prog f [clv k, .p b7 0] [.box b7 ty7 d7] (Is (.b (p k)) [.box b7 ty7 d7])) : Con Tryz.prog 137 [.sl 2 (l.map clv), .v (.func (.func f) #[] #[.pointer (some ⟨b7, 0, none⟩)])] [.box b7 ty7 d7] (fun d H => ∃ r : Int, d = .i r ∧ decide (0 ≤ r) = l.any p ∧ (l.any p = false → r = -1) ∧ H = [.box b7 ty7 d7]) := by
  have hcap : capB = 140737488355328 := rfl
  have hl1 : (l.map clv).length = l.length := by simp
  refine con_intro Tryz.func137 rfl Tryz.call137 rfl ?_
  iterate 9 refine zW ?_
  first | refine zLn fun _ => ?_ | refine zW ?_
  iterate 4 refine zW ?_
  refine awp_loop1 [0, 1, 7] [] (fun (k : Nat) r => (8, .i (k : Int)) :: r) (fun k r => .box b7 ty7 d7 :: r) (fun k => k ≤ l.length ∧ (l.drop k).any p = l.any p) (fun k => l.length - k) (0) zRc ⟨by omega, by simp⟩ (zWk) ?_
  intro k ⟨hk, hI⟩
  iterate 6 refine zW ?_
  refine zC (fun hc => ?_) fun hc => ?_
  · have hlt : k < l.length := by have := of_decide_eq_true hc; omega
    obtain ⟨x, hx, hd⟩ := drop_cons hlt
    have hx' := getMap clv hx
    rw [hd] at hI
    iterate 17 refine zW ?_
    (refine aops_callv (caps := [.pointer (some ⟨b7, 0, none⟩)]) rfl zRc (hf x (List.mem_of_getElem? hx)) zSplit rfl rfl ?_; rintro _ _ ⟨rfl, rfl⟩; obtain ⟨c16, hc16⟩ : ∃ b, b = p x := ⟨_, rfl⟩; rw [← hc16])
    refine zW ?_; refine zW ?_
    refine zC (fun hc => ?_) fun hc => ?_
    · iterate 12 refine zW ?_
      refine post_ret (.tmp rfl .nil) zKeep ⟨_, rfl, ?_, ?_, rfl⟩
      all_goals rw [any_t (hc16.symm.trans hc)] at hI
      · rw [← hI]; exact decide_eq_true (by omega)
      · intro h; rw [← hI] at h; cases h
    · iterate 8 refine zW ?_
      rw [any_f (hc16.symm.trans hc)] at hI
      refine ⟨k + 1, ⟨by omega, hI⟩, by omega, zWk⟩
  · have hge : l.length ≤ k := by have := of_decide_eq_false hc; omega
    rw [drop_nil hge] at hI
    iterate 11 refine zW ?_
    refine post_ret (.tmp rfl .nil) zKeep ⟨_, rfl, ?_, fun _ => rfl, rfl⟩
    rw [← hI]; rfl
theorem containsFC_con (b7 ty7 : Nat) (d7 : List D) (f : FuncId) (p : Cl → Bool) (l : List Cl) (hf : ∀ k, k ∈ l → Con Tryz.prog f [clv k, .p b7 0] [.box b7 ty7 d7] (Is (.b (p k)) [.box b7 ty7 d7])) : Con Tryz.prog 93 [.sl 2 (l.map clv), .v (.func (.func f) #[] #[.pointer (some ⟨b7, 0, none⟩)])] [.box b7 ty7 d7] (Is (.b (l.any p)) [.box b7 ty7 d7]) := by
  have hcap : capB = 140737488355328 := rfl
  refine con_intro Tryz.func93 rfl Tryz.call93 rfl ?_
  iterate 9 refine zW ?_
  (refine aops_call zRc (indexFC_con b7 ty7 d7 f p l hf) zSplit rfl rfl ?_; rintro _ _ ⟨r, rfl, hr, _, rfl⟩)
  iterate 5 refine zW ?_
  refine zPi ?_
  rw [← hr]; rfl
theorem indexFC0_con (f : FuncId) (p : Cl → Bool) (l : List Cl) (hf : ∀ k, k ∈ l → Con Tryz.prog f [clv k] [] (Is (.b (p k)) [])) : Con Tryz.prog 137 [.sl 2 (l.map clv), .v (.func (.func f) #[] #[])] [] (fun d H => ∃ r : Int, d = .i r ∧ decide (0 ≤ r) = l.any p ∧ (l.any p = false → r = -1) ∧ H = []) := by
  have hcap : capB = 140737488355328 := rfl
  have hl1 : (l.map clv).length = l.length := by simp
  refine con_intro Tryz.func137 rfl Tryz.call137 rfl ?_
  iterate 9 refine zW ?_
  first | refine zLn fun _ => ?_ | refine zW ?_
  iterate 4 refine zW ?_
  refine awp_loop1 [0, 1, 7] [] (fun (k : Nat) r => (8, .i (k : Int)) :: r) (fun k r => r) (fun k => k ≤ l.length ∧ (l.drop k).any p = l.any p) (fun k => l.length - k) (0) zRc ⟨by omega, by simp⟩ (zWk) ?_
  intro k ⟨hk, hI⟩
  iterate 6 refine zW ?_
  refine zC (fun hc => ?_) fun hc => ?_
  · have hlt : k < l.length := by have := of_decide_eq_true hc; omega
    obtain ⟨x, hx, hd⟩ := drop_cons hlt
    have hx' := getMap clv hx
    rw [hd] at hI
    iterate 17 refine zW ?_
    (refine aops_callv (caps := []) rfl zRc (hf x (List.mem_of_getElem? hx)) zSplit rfl rfl ?_; rintro _ _ ⟨rfl, rfl⟩; obtain ⟨c16, hc16⟩ : ∃ b, b = p x := ⟨_, rfl⟩; rw [← hc16])
    refine zW ?_; refine zW ?_
    refine zC (fun hc => ?_) fun hc => ?_
    · iterate 12 refine zW ?_
      refine post_ret (.tmp rfl .nil) zKeep ⟨_, rfl, ?_, ?_, rfl⟩
      all_goals rw [any_t (hc16.symm.trans hc)] at hI
      · rw [← hI]; exact decide_eq_true (by omega)
      · intro h; rw [← hI] at h; cases h
    · iterate 8 refine zW ?_
      rw [any_f (hc16.symm.trans hc)] at hI
      refine ⟨k + 1, ⟨by omega, hI⟩, by omega, zWk⟩
  · have hge : l.length ≤ k := by have := of_decide_eq_false hc; omega
    rw [drop_nil hge] at hI
    iterate 11 refine zW ?_
    refine post_ret (.tmp rfl .nil) zKeep ⟨_, rfl, ?_, fun _ => rfl, rfl⟩
    rw [← hI]; rfl
theorem delC_con (f : FuncId) (p : Cl → Bool) (l : List Cl) (hf : ∀ k, k ∈ l → Con Tryz.prog f [clv k] [] (Is (.b (p k)) [])) (hp : l.any p = false) (v : Value) : Con Tryz.prog 197 [.v v, .v (.func (.func f) #[] #[])] [.arr v 36 2 (l.map clv)] (Is (.v v) [.arr v 36 2 (l.map clv)]) := by
  have hcap : capB = 140737488355328 := rfl
  refine con_intro Tryz.func197 rfl Tryz.call197 rfl ?_
  iterate 9 refine zW ?_
  (refine aops_call zRc (Con.borrow (pre := []) (post := [.v (.func (.func f) #[] #[])]) (l := l.map clv) (indexFC0_con f p l hf) (fun d H ⟨r, h1, _, _, h2⟩ => ⟨⟨_, h1⟩, h2⟩)) zSplit rfl rfl ?_; rintro _ _ ⟨⟨r, rfl, _, hr, _⟩, rfl⟩; obtain rfl := hr hp)
  iterate 10 refine zW ?_
  refine awp_cond_t rfl zDec ?_
  iterate 8 refine zW ?_
  (refine zPi ?_; exact rfl)
theorem len64_con (x : Nat) (hx : x < 200) : Con Tryz.prog 118 [.v (.int .u64 (x : Int))] [] (fun d H => ∃ r : Int, d = .i r ∧ H = []) := by
  have hcap : capB = 140737488355328 := rfl
  refine con_intro Tryz.func118 rfl Tryz.call118 rfl ?_
  iterate 12 refine zW ?_
  refine awp_cond_f rfl zDec ?_
  iterate 9 refine zW ?_
  refine awp_cond_f rfl zDec ?_
  iterate 9 refine zW ?_
  refine awp_cond_f rfl zDec ?_
  iterate 7 refine zW ?_
  refine aops_index_str (k := x) rfl rfl rfl (by simp [IntKind.wrap, IntKind.bits, IntKind.signed]; omega) (Nat.lt_of_lt_of_le hx (Nat.le_of_ble_eq_true (by kernel_rfl))) rfl rfl (fun c hc22 => ?_); have hcb := c.toNat_lt
  refine aops_p (ap_convid rfl rfl rfl (by omega)) rfl rfl rfl ?_
  iterate 5 refine zW ?_
  refine post_ret (.tmp rfl .nil) zKeep ⟨_, rfl, rfl⟩
theorem blen_con (x : Nat) (hx : x < 200) : Con Tryz.prog 78 [.v (.int .u64 (x : Int))] [] (fun d H => ∃ r : Int, d = .i r ∧ H = []) := by
  have hcap : capB = 140737488355328 := rfl
  refine con_intro Tryz.func78 rfl Tryz.call78 rfl ?_
  iterate 6 refine zW ?_
  refine awp_cond_f rfl zDec ?_
  iterate 5 refine zW ?_
  (refine aops_call zRc (len64_con x hx) zSplit rfl rfl ?_; rintro _ _ ⟨r, rfl, rfl⟩)
  iterate 4 refine zW ?_
  refine post_ret (.tmp rfl .nil) zKeep ⟨_, rfl, rfl⟩
theorem clmO_con (l : List Msg) (hl : l.length ≤ 1000000) : Con Tryz.prog 130 [.sl 7 (l.map msv)] [] (fun d H => ∃ v, d = .v v ∧ H = [.arr v 44 7 (l.map msv)]) := by
  have hcap : capB = 140737488355328 := rfl
  have hl1 : (l.map msv).length = l.length := by simp
  refine con_intro Tryz.func130 rfl Tryz.call130 rfl ?_
  iterate 9 refine zW ?_
  refine aops_eqnil rfl rfl rfl rfl rfl (fun c4 hnil4 => ?_)
  refine zW ?_; refine zW ?_
  refine zC (fun hc => ?_) fun hc => ?_
  · iterate 5 refine zW ?_
    have e : l = [] := by simpa using hnil4 hc
    subst e
    refine awp_own 44 7 rfl ?_
    refine zW ?_; refine zW ?_
    refine post_ret (.tmp rfl .nil) zKeep ⟨_, rfl, rfl⟩
  · iterate 4 refine zW ?_
    refine aops_own (e := 44) (sz := 7) (by_ := 120) rfl rfl zRc rfl rfl rfl rfl (fun v5 hv5 => ?_)
    refine zW ?_
    first | refine aops_append (e := 44) (sz := 7) (by_ := 120) rfl zUpd rfl rfl rfl rfl rfl (by simp only [List.length_cons, List.length_nil, List.length_append, List.length_map, avs_len]; omega) (fun v7 hv7 => ?_) | refine aops_append_nil (e := 44) (sz := 7) (by_ := 120) rfl rfl rfl rfl rfl rfl (by simp only [List.length_cons, List.length_nil, List.length_append, List.length_map, avs_len]; omega) (fun v7 hv7 => ?_)
    iterate 4 refine zW ?_
    refine post_ret (.tmp rfl .nil) zKeep ⟨_, rfl, rfl⟩
theorem clvO_con (l : List Vt) (hl : l.length ≤ 1000000) : Con Tryz.prog 53 [.sl 9 (l.map vtv)] [] (fun d H => ∃ v, d = .v v ∧ H = [.arr v 57 9 (l.map vtv)]) := by
  have hcap : capB = 140737488355328 := rfl
  have hl1 : (l.map vtv).length = l.length := by simp
  refine con_intro Tryz.func53 rfl Tryz.call53 rfl ?_
  iterate 9 refine zW ?_
  refine aops_eqnil rfl rfl rfl rfl rfl (fun c4 hnil4 => ?_)
  refine zW ?_; refine zW ?_
  refine zC (fun hc => ?_) fun hc => ?_
  · iterate 5 refine zW ?_
    have e : l = [] := by simpa using hnil4 hc
    subst e
    refine awp_own 57 9 rfl ?_
    refine zW ?_; refine zW ?_
    refine post_ret (.tmp rfl .nil) zKeep ⟨_, rfl, rfl⟩
  · iterate 4 refine zW ?_
    refine aops_own (e := 57) (sz := 9) (by_ := 168) rfl rfl zRc rfl rfl rfl rfl (fun v5 hv5 => ?_)
    refine zW ?_
    first | refine aops_append (e := 57) (sz := 9) (by_ := 168) rfl zUpd rfl rfl rfl rfl rfl (by simp only [List.length_cons, List.length_nil, List.length_append, List.length_map, avs_len]; omega) (fun v7 hv7 => ?_) | refine aops_append_nil (e := 57) (sz := 9) (by_ := 168) rfl rfl rfl rfl rfl rfl (by simp only [List.length_cons, List.length_nil, List.length_append, List.length_map, avs_len]; omega) (fun v7 hv7 => ?_)
    iterate 4 refine zW ?_
    refine post_ret (.tmp rfl .nil) zKeep ⟨_, rfl, rfl⟩
theorem vtrust_con (m : Nat) (hm : m ≤ 200000) : ∀ (t : Trust), sizeT t ≤ m → Con Tryz.prog 84 [av t] [] (Is (av t) []) := by
  have hcap : capB = 140737488355328 := rfl
  intro t
  induction t using Trust.ind with
  | _ t ih =>
    have hl1 : (t.nodes.map D.i).length = t.nodes.length := by simp
    have hl2 := avs_len t.inner
    intro hsz
    have hs0 : sizeT t = t.nodes.length + t.inner.length + sizeL t.inner := rfl
    refine con_intro Tryz.func84 rfl Tryz.call84 rfl ?_
    refine zW ?_; refine zW ?_
    refine zBx fun b1 => ?_
    refine zAl fun b2 => ?_
    iterate 3 refine zW ?_
    refine zDr [] ?_
    refine zT 0 ?_
    refine zT 1 ?_
    refine zT 2 ?_
    refine zT 3 ?_
    refine zE2 4 6 ?_ ?_
    rotate_left
    case' _ =>
      refine zAl fun b3 => ?_
      refine zW ?_
      refine zOn 4 ?_
      refine aops_call_v zRc (Clone_con t.nodes (by omega)) rfl rfl ?_
      refine zW ?_
      refine zT 5 ?_
      refine zOn 7 ?_
      iterate 3 refine zW ?_
    rotate_right
    case' _ =>
      refine aops_call_v zRc (Clone_con t.nodes (by omega)) rfl rfl ?_
      refine zW ?_
      refine zT 5 ?_
      refine zOn 6 ?_
      refine zAl fun b3 => ?_
      refine zW ?_
      refine zOn 7 ?_
      iterate 3 refine zW ?_
    all_goals (
      iterate 6 refine zW ?_
      first | refine zLn fun _ => ?_ | refine zW ?_
      iterate 4 refine zW ?_
      refine awp_loop3 [2, 3, 13, 14] [.box b1 _ _, .box b2 _ _] (fun (k : Nat) (v : Value) (q : List Trust) r => (15, .i (k : Int)) :: r) (fun k v q r => .box b3 41 [.i t.th, .sl 1 (t.nodes.map .i), .v v] :: .arr v 41 3 (avs q) :: r) (fun k v q => k ≤ t.inner.length ∧ q = t.inner.take k) (fun k v q => t.inner.length - k) (0) (.slice none 0 0) ([]) zRc ⟨by omega, by simp⟩ ((wk_own 41 3 rfl).trans (zWk)) ?_
      intro k v q ⟨hk, hI⟩
      have hql : q.length = k := by rw [hI]; simp; omega
      iterate 6 refine zW ?_
      refine zC (fun hc => ?_) fun hc => ?_
      · have hlt : k < t.inner.length := by have := of_decide_eq_true hc; omega
        obtain ⟨x, hx, hd⟩ := drop_cons hlt
        have hx' := avs_get hx
        have hxm := List.mem_of_getElem? hx
        iterate 8 refine zW ?_
        refine zAl fun b5 => ?_
        iterate 3 refine zW ?_
        refine zDr [.box b3 _ _, .arr v _ _ _] ?_
        refine zT 0 ?_
        refine zT 2 ?_
        refine zE2 1 3 ?_ ?_
        rotate_left
        case' _ =>
          refine aops_call_v zRc (ih _ hxm (by have := sizeL_mem hxm; omega)) rfl rfl ?_
          refine zW ?_
          refine zE2 1 4 ?_ ?_
          rotate_left
          case' _ =>
            refine aops_lit (e := 41) (sz := 3) (by_ := 56) rfl rfl zRc rfl rfl rfl rfl ?_
            refine zW ?_
            refine zOn 1 ?_
            refine zW ?_; refine zW ?_
            refine zOn 5 ?_
            first | refine aops_append (e := 41) (sz := 3) (by_ := 56) rfl zUpd rfl rfl rfl rfl rfl (by simp only [List.length_cons, List.length_nil, List.length_append, List.length_map, avs_len]; omega) (fun v24 hv24 => ?_) | refine aops_append_nil (e := 41) (sz := 3) (by_ := 56) rfl rfl rfl rfl rfl rfl (by simp only [List.length_cons, List.length_nil, List.length_append, List.length_map, avs_len]; omega) (fun v24 hv24 => ?_)
            refine zW ?_
            refine zT 6 ?_
            refine zOn 7 ?_
            iterate 3 refine zW ?_
          rotate_right
          case' _ =>
            refine zW ?_; refine zW ?_
            refine zOn 4 ?_
            refine aops_lit (e := 41) (sz := 3) (by_ := 56) rfl rfl zRc rfl rfl rfl rfl ?_
            refine zW ?_
            refine zOn 5 ?_
            first | refine aops_append (e := 41) (sz := 3) (by_ := 56) rfl zUpd rfl rfl rfl rfl rfl (by simp only [List.length_cons, List.length_nil, List.length_append, List.length_map, avs_len]; omega) (fun v24 hv24 => ?_) | refine aops_append_nil (e := 41) (sz := 3) (by_ := 56) rfl rfl rfl rfl rfl rfl (by simp only [List.length_cons, List.length_nil, List.length_append, List.length_map, avs_len]; omega) (fun v24 hv24 => ?_)
            refine zW ?_
            refine zT 6 ?_
            refine zOn 7 ?_
            iterate 3 refine zW ?_
        rotate_right
        case' _ =>
          refine zW ?_; refine zW ?_
          refine zOn 3 ?_
          refine aops_call_v zRc (ih _ hxm (by have := sizeL_mem hxm; omega)) rfl rfl ?_
          refine zW ?_
          refine zOn 4 ?_
          refine aops_lit (e := 41) (sz := 3) (by_ := 56) rfl rfl zRc rfl rfl rfl rfl ?_
          refine zW ?_
          refine zOn 5 ?_
          first | refine aops_append (e := 41) (sz := 3) (by_ := 56) rfl zUpd rfl rfl rfl rfl rfl (by simp only [List.length_cons, List.length_nil, List.length_append, List.length_map, avs_len]; omega) (fun v24 hv24 => ?_) | refine aops_append_nil (e := 41) (sz := 3) (by_ := 56) rfl rfl rfl rfl rfl rfl (by simp only [List.length_cons, List.length_nil, List.length_append, List.length_map, avs_len]; omega) (fun v24 hv24 => ?_)
          refine zW ?_
          refine zT 6 ?_
          refine zOn 7 ?_
          iterate 3 refine zW ?_
        all_goals (
          iterate 7 refine zW ?_
          rw [avs_snoc]
          refine ⟨k + 1, _, _, ⟨by omega, ?_⟩, by omega, zWk⟩
          rw [hI, List.take_add_one, hx]; simp
          )
      · have hge : t.inner.length ≤ k := by have := of_decide_eq_false hc; omega
        refine zFz v [2,3] ?_
        iterate 12 refine zW ?_
        refine post_is (.cell rfl zUpd rfl rfl .nil) .nil ?_
        subst hI
        rw [List.take_of_length_le hge]; rfl
      )
theorem vmsg_con (m : Msg) (hs : sizeT m.t ≤ 200000) (h1 : m.votes.length ≤ 1000) (h2 : m.acc.length ≤ 1000) : Con Tryz.prog 132 [msv m] [] (Is (msv m) []) := by
  have hcap : capB = 140737488355328 := rfl
  refine con_intro Tryz.func132 rfl Tryz.call132 rfl ?_
  refine zW ?_; refine zW ?_
  refine zBx fun b1 => ?_
  refine zAl fun b2 => ?_
  iterate 3 refine zW ?_
  refine awp_draw2 (stB [10, 11, 12, 13, 14]) (by kernel_rfl) ?_
  first | refine aany2_pure 0 rfl (.none rfl) zKr zKr zKr (ap_fieldAddr (off := 2) (sz := 3) (g := true) rfl rfl) rfl rfl ?_ | refine aany2_pure 0 rfl (.none rfl) zKr zKr zKr (ap_fieldAddr_el (off := 2) (sz := 3) (g := true) rfl rfl zRc) rfl rfl ?_
  first | refine aany2_take 1 rfl (.none rfl) zKr zKr zKr zKr (stB_out zKr) (aq_load rfl zUpd List.not_mem_nil rfl rfl zRc) rfl rfl ?_ | refine aany2_take 1 rfl (.none rfl) zKr zKr zKr zKr (stB_out zKr) (aq_load_el rfl rfl rfl rfl (fun _ h => absurd h List.not_mem_nil)) rfl rfl ?_
  first | refine aany2_pure 3 rfl (.none rfl) zKr zKr zKr (ap_fieldAddr (off := 5) (sz := 1) (g := false) rfl rfl) rfl rfl ?_ | refine aany2_pure 3 rfl (.none rfl) zKr zKr zKr (ap_fieldAddr_el (off := 5) (sz := 1) (g := false) rfl rfl zRc) rfl rfl ?_
  first | refine aany2_take 4 rfl (.none rfl) zKr zKr zKr zKr (stB_out zKr) (aq_load1 rfl zUpd List.not_mem_nil rfl zRc) rfl rfl ?_ | refine aany2_take 4 rfl (.none rfl) zKr zKr zKr zKr (stB_out zKr) (aq_load_el1 rfl rfl zScal (fun _ h => absurd h List.not_mem_nil)) rfl rfl ?_ | refine aany2_take 4 rfl (.none rfl) zKr zKr zKr zKr (stB_out zKr) (aq_load_el1' rfl rfl zScal (fun _ h => absurd h List.not_mem_nil)) rfl rfl ?_ | refine aany2_take 4 rfl (.none rfl) zKr zKr zKr zKr (stB_out zKr) (aq_load_own1 rfl zUpd List.not_mem_nil rfl (by first | with_reducible assumption | assumption | rfl) zScal) rfl rfl ?_
  first | refine aany2_pure 6 rfl (.none rfl) zKr zKr zKr (ap_fieldAddr (off := 6) (sz := 1) (g := false) rfl rfl) rfl rfl ?_ | refine aany2_pure 6 rfl (.none rfl) zKr zKr zKr (ap_fieldAddr_el (off := 6) (sz := 1) (g := false) rfl rfl zRc) rfl rfl ?_
  first | refine aany2_take 7 rfl (.none rfl) zKr zKr zKr zKr (stB_out zKr) (aq_load1 rfl zUpd List.not_mem_nil rfl zRc) rfl rfl ?_ | refine aany2_take 7 rfl (.none rfl) zKr zKr zKr zKr (stB_out zKr) (aq_load_el1 rfl rfl zScal (fun _ h => absurd h List.not_mem_nil)) rfl rfl ?_ | refine aany2_take 7 rfl (.none rfl) zKr zKr zKr zKr (stB_out zKr) (aq_load_el1' rfl rfl zScal (fun _ h => absurd h List.not_mem_nil)) rfl rfl ?_ | refine aany2_take 7 rfl (.none rfl) zKr zKr zKr zKr (stB_out zKr) (aq_load_own1 rfl zUpd List.not_mem_nil rfl (by first | with_reducible assumption | assumption | rfl) zScal) rfl rfl ?_
  refine aany2_call 2 zKr rfl zRc (vtrust_con 200000 (by omega) m.t hs) rfl rfl ?_
  rintro _ _ ⟨rfl, rfl⟩
  refine ⟨rfl, ?_⟩
  first | refine aany2_pure 9 rfl (.none rfl) zKr zKr zKr (ap_fieldAddr (off := 2) (sz := 3) (g := true) rfl rfl) rfl rfl ?_ | refine aany2_pure 9 rfl (.none rfl) zKr zKr zKr (ap_fieldAddr_el (off := 2) (sz := 3) (g := true) rfl rfl zRc) rfl rfl ?_
  refine aany2_call 5 zKr rfl zRc (clc_con m.votes (by omega)) rfl rfl ?_
  rintro _ _ ⟨rfl, rfl⟩
  refine ⟨rfl, ?_⟩
  refine aany2_call 8 zKr rfl zRc (clc_con m.acc (by omega)) rfl rfl ?_
  rintro _ _ ⟨rfl, rfl⟩
  refine ⟨rfl, ?_⟩
  refine aany2_switch (Hm := [.box b1 _ _]) (by kernel_rfl) (by kernel_rfl) (by repeat (first | exact .nil | exact Split.none _ | apply Split.left | apply Split.right)) ?_
  refine zOn 10 ?_
  refine zW ?_; refine zW ?_
  refine zT 11 ?_
  refine zOn 12 ?_
  refine zW ?_; refine zW ?_
  refine zT 13 ?_
  refine zOn 14 ?_
  iterate 3 refine zW ?_
  all_goals (
    iterate 8 refine zW ?_
    (refine zPi ?_; exact rfl)
    )
theorem atrust_con (m : Nat) (hm : m ≤ 200000) : ∀ (t : Trust), sizeT t ≤ m → Con Tryz.prog 54 [av t] [] (Is (av t) []) := by
  have hcap : capB = 140737488355328 := rfl
  intro t
  induction t using Trust.ind with
  | _ t ih =>
    have hl1 : (t.nodes.map D.i).length = t.nodes.length := by simp
    have hl2 := avs_len t.inner
    intro hsz
    have hs0 : sizeT t = t.nodes.length + t.inner.length + sizeL t.inner := rfl
    refine con_intro Tryz.func54 rfl Tryz.call54 rfl ?_
    refine zW ?_; refine zW ?_
    refine zBx fun b1 => ?_
    refine zAl fun b2 => ?_
    iterate 3 refine zW ?_
    refine zDr [] ?_
    refine zT 0 ?_
    refine zT 1 ?_
    refine zT 2 ?_
    refine zT 3 ?_
    refine zE2 4 6 ?_ ?_
    rotate_left
    case' _ =>
      refine zAl fun b3 => ?_
      refine zW ?_
      refine zOn 4 ?_
      refine aops_call_v zRc (Clone_con t.nodes (by omega)) rfl rfl ?_
      refine zW ?_
      refine zT 5 ?_
      refine zOn 7 ?_
      iterate 3 refine zW ?_
    rotate_right
    case' _ =>
      refine aops_call_v zRc (Clone_con t.nodes (by omega)) rfl rfl ?_
      refine zW ?_
      refine zT 5 ?_
      refine zOn 6 ?_
      refine zAl fun b3 => ?_
      refine zW ?_
      refine zOn 7 ?_
      iterate 3 refine zW ?_
    all_goals (
      iterate 6 refine zW ?_
      first | refine zLn fun _ => ?_ | refine zW ?_
      iterate 4 refine zW ?_
      refine awp_loop3 [2, 3, 13, 14] [.box b1 _ _, .box b2 _ _] (fun (k : Nat) (v : Value) (q : List Trust) r => (15, .i (k : Int)) :: r) (fun k v q r => .box b3 41 [.i t.th, .sl 1 (t.nodes.map .i), .v v] :: .arr v 41 3 (avs q) :: r) (fun k v q => k ≤ t.inner.length ∧ q = t.inner.take k) (fun k v q => t.inner.length - k) (0) (.slice none 0 0) ([]) zRc ⟨by omega, by simp⟩ ((wk_own 41 3 rfl).trans (zWk)) ?_
      intro k v q ⟨hk, hI⟩
      have hql : q.length = k := by rw [hI]; simp; omega
      iterate 6 refine zW ?_
      refine zC (fun hc => ?_) fun hc => ?_
      · have hlt : k < t.inner.length := by have := of_decide_eq_true hc; omega
        obtain ⟨x, hx, hd⟩ := drop_cons hlt
        have hx' := avs_get hx
        have hxm := List.mem_of_getElem? hx
        iterate 8 refine zW ?_
        refine zAl fun b5 => ?_
        iterate 3 refine zW ?_
        refine zDr [.box b3 _ _, .arr v _ _ _] ?_
        refine zT 0 ?_
        refine zT 2 ?_
        refine zE2 1 3 ?_ ?_
        rotate_left
        case' _ =>
          refine aops_call_v zRc (ih _ hxm (by have := sizeL_mem hxm; omega)) rfl rfl ?_
          refine zW ?_
          refine zE2 1 4 ?_ ?_
          rotate_left
          case' _ =>
            refine aops_lit (e := 41) (sz := 3) (by_ := 56) rfl rfl zRc rfl rfl rfl rfl ?_
            refine zW ?_
            refine zOn 1 ?_
            refine zW ?_; refine zW ?_
            refine zOn 5 ?_
            first | refine aops_append (e := 41) (sz := 3) (by_ := 56) rfl zUpd rfl rfl rfl rfl rfl (by simp only [List.length_cons, List.length_nil, List.length_append, List.length_map, avs_len]; omega) (fun v24 hv24 => ?_) | refine aops_append_nil (e := 41) (sz := 3) (by_ := 56) rfl rfl rfl rfl rfl rfl (by simp only [List.length_cons, List.length_nil, List.length_append, List.length_map, avs_len]; omega) (fun v24 hv24 => ?_)
            refine zW ?_
            refine zT 6 ?_
            refine zOn 7 ?_
            iterate 3 refine zW ?_
          rotate_right
          case' _ =>
            refine zW ?_; refine zW ?_
            refine zOn 4 ?_
            refine aops_lit (e := 41) (sz := 3) (by_ := 56) rfl rfl zRc rfl rfl rfl rfl ?_
            refine zW ?_
            refine zOn 5 ?_
            first | refine aops_append (e := 41) (sz := 3) (by_ := 56) rfl zUpd rfl rfl rfl rfl rfl (by simp only [List.length_cons, List.length_nil, List.length_append, List.length_map, avs_len]; omega) (fun v24 hv24 => ?_) | refine aops_append_nil (e := 41) (sz := 3) (by_ := 56) rfl rfl rfl rfl rfl rfl (by simp only [List.length_cons, List.length_nil, List.length_append, List.length_map, avs_len]; omega) (fun v24 hv24 => ?_)
            refine zW ?_
            refine zT 6 ?_
            refine zOn 7 ?_
            iterate 3 refine zW ?_
        rotate_right
        case' _ =>
          refine zW ?_; refine zW ?_
          refine zOn 3 ?_
          refine aops_call_v zRc (ih _ hxm (by have := sizeL_mem hxm; omega)) rfl rfl ?_
          refine zW ?_
          refine zOn 4 ?_
          refine aops_lit (e := 41) (sz := 3) (by_ := 56) rfl rfl zRc rfl rfl rfl rfl ?_
          refine zW ?_
          refine zOn 5 ?_
          first | refine aops_append (e := 41) (sz := 3) (by_ := 56) rfl zUpd rfl rfl rfl rfl rfl (by simp only [List.length_cons, List.length_nil, List.length_append, List.length_map, avs_len]; omega) (fun v24 hv24 => ?_) | refine aops_append_nil (e := 41) (sz := 3) (by_ := 56) rfl rfl rfl rfl rfl rfl (by simp only [List.length_cons, List.length_nil, List.length_append, List.length_map, avs_len]; omega) (fun v24 hv24 => ?_)
          refine zW ?_
          refine zT 6 ?_
          refine zOn 7 ?_
          iterate 3 refine zW ?_
        all_goals (
          iterate 7 refine zW ?_
          rw [avs_snoc]
          refine ⟨k + 1, _, _, ⟨by omega, ?_⟩, by omega, zWk⟩
          rw [hI, List.take_add_one, hx]; simp
          )
      · have hge : t.inner.length ≤ k := by have := of_decide_eq_false hc; omega
        refine zFz v [2,3] ?_
        iterate 12 refine zW ?_
        refine post_is (.cell rfl zUpd rfl rfl .nil) .nil ?_
        subst hI
        rw [List.take_of_length_le hge]; rfl
      )
theorem amsg_con (m : Msg) (hs : sizeT m.t ≤ 200000) (h1 : m.votes.length ≤ 1000) (h2 : m.acc.length ≤ 1000) : Con Tryz.prog 56 [msv m] [] (Is (msv m) []) := by
  have hcap : capB = 140737488355328 := rfl
  refine con_intro Tryz.func56 rfl Tryz.call56 rfl ?_
  refine zW ?_; refine zW ?_
  refine zBx fun b1 => ?_
  refine zAl fun b2 => ?_
  iterate 3 refine zW ?_
  refine awp_draw2 (stB [10, 11, 12, 13, 14]) (by kernel_rfl) ?_
  first | refine aany2_pure 0 rfl (.none rfl) zKr zKr zKr (ap_fieldAddr (off := 2) (sz := 3) (g := true) rfl rfl) rfl rfl ?_ | refine aany2_pure 0 rfl (.none rfl) zKr zKr zKr (ap_fieldAddr_el (off := 2) (sz := 3) (g := true) rfl rfl zRc) rfl rfl ?_
  first | refine aany2_take 1 rfl (.none rfl) zKr zKr zKr zKr (stB_out zKr) (aq_load rfl zUpd List.not_mem_nil rfl rfl zRc) rfl rfl ?_ | refine aany2_take 1 rfl (.none rfl) zKr zKr zKr zKr (stB_out zKr) (aq_load_el rfl rfl rfl rfl (fun _ h => absurd h List.not_mem_nil)) rfl rfl ?_
  first | refine aany2_pure 3 rfl (.none rfl) zKr zKr zKr (ap_fieldAddr (off := 5) (sz := 1) (g := false) rfl rfl) rfl rfl ?_ | refine aany2_pure 3 rfl (.none rfl) zKr zKr zKr (ap_fieldAddr_el (off := 5) (sz := 1) (g := false) rfl rfl zRc) rfl rfl ?_
  first | refine aany2_take 4 rfl (.none rfl) zKr zKr zKr zKr (stB_out zKr) (aq_load1 rfl zUpd List.not_mem_nil rfl zRc) rfl rfl ?_ | refine aany2_take 4 rfl (.none rfl) zKr zKr zKr zKr (stB_out zKr) (aq_load_el1 rfl rfl zScal (fun _ h => absurd h List.not_mem_nil)) rfl rfl ?_ | refine aany2_take 4 rfl (.none rfl) zKr zKr zKr zKr (stB_out zKr) (aq_load_el1' rfl rfl zScal (fun _ h => absurd h List.not_mem_nil)) rfl rfl ?_ | refine aany2_take 4 rfl (.none rfl) zKr zKr zKr zKr (stB_out zKr) (aq_load_own1 rfl zUpd List.not_mem_nil rfl (by first | with_reducible assumption | assumption | rfl) zScal) rfl rfl ?_
  first | refine aany2_pure 6 rfl (.none rfl) zKr zKr zKr (ap_fieldAddr (off := 6) (sz := 1) (g := false) rfl rfl) rfl rfl ?_ | refine aany2_pure 6 rfl (.none rfl) zKr zKr zKr (ap_fieldAddr_el (off := 6) (sz := 1) (g := false) rfl rfl zRc) rfl rfl ?_
  first | refine aany2_take 7 rfl (.none rfl) zKr zKr zKr zKr (stB_out zKr) (aq_load1 rfl zUpd List.not_mem_nil rfl zRc) rfl rfl ?_ | refine aany2_take 7 rfl (.none rfl) zKr zKr zKr zKr (stB_out zKr) (aq_load_el1 rfl rfl zScal (fun _ h => absurd h List.not_mem_nil)) rfl rfl ?_ | refine aany2_take 7 rfl (.none rfl) zKr zKr zKr zKr (stB_out zKr) (aq_load_el1' rfl rfl zScal (fun _ h => absurd h List.not_mem_nil)) rfl rfl ?_ | refine aany2_take 7 rfl (.none rfl) zKr zKr zKr zKr (stB_out zKr) (aq_load_own1 rfl zUpd List.not_mem_nil rfl (by first | with_reducible assumption | assumption | rfl) zScal) rfl rfl ?_
  refine aany2_call 2 zKr rfl zRc (atrust_con 200000 (by omega) m.t hs) rfl rfl ?_
  rintro _ _ ⟨rfl, rfl⟩
  refine ⟨rfl, ?_⟩
  first | refine aany2_pure 9 rfl (.none rfl) zKr zKr zKr (ap_fieldAddr (off := 2) (sz := 3) (g := true) rfl rfl) rfl rfl ?_ | refine aany2_pure 9 rfl (.none rfl) zKr zKr zKr (ap_fieldAddr_el (off := 2) (sz := 3) (g := true) rfl rfl zRc) rfl rfl ?_
  refine aany2_call 5 zKr rfl zRc (clc_con m.votes (by omega)) rfl rfl ?_
  rintro _ _ ⟨rfl, rfl⟩
  refine ⟨rfl, ?_⟩
  refine aany2_call 8 zKr rfl zRc (clc_con m.acc (by omega)) rfl rfl ?_
  rintro _ _ ⟨rfl, rfl⟩
  refine ⟨rfl, ?_⟩
  refine aany2_switch (Hm := [.box b1 _ _]) (by kernel_rfl) (by kernel_rfl) (by repeat (first | exact .nil | exact Split.none _ | apply Split.left | apply Split.right)) ?_
  refine zOn 10 ?_
  refine zW ?_; refine zW ?_
  refine zT 11 ?_
  refine zOn 12 ?_
  refine zW ?_; refine zW ?_
  refine zT 13 ?_
  refine zOn 14 ?_
  iterate 3 refine zW ?_
  all_goals (
    iterate 8 refine zW ?_
    (refine zPi ?_; exact rfl)
    )
theorem vsay_con (v : Vt) : Con Tryz.prog 133 [vtv v] [] (Is (msv (sayM v)) []) := by
  have hcap : capB = 140737488355328 := rfl
  refine con_intro Tryz.func133 rfl Tryz.call133 rfl ?_
  refine zW ?_; refine zW ?_
  refine zBx fun b1 => ?_
  refine zAl fun b2 => ?_
  iterate 19 refine zW ?_
  (refine zPi ?_; exact rfl)
structure VSz (v : Vt) : Prop where
  t : sizeT v.t ≤ 200000
  votes : v.votes.length ≤ 1000
  acc : v.acc.length ≤ 1000
  cf : v.cf.length ≤ 1000
  hl : v.hs.length ≤ 1000
  hs : ∀ m ∈ v.hs, sizeT m.t ≤ 200000 ∧ m.votes.length ≤ 1000 ∧ m.acc.length ≤ 1000
theorem msv_snoc2 (q : List Msg) (x : Msg) : q.map msv ++ [msv x] = (q ++ [x]).map msv := by simp
theorem vtv_snoc (q : List Vt) (x : Vt) : q.map vtv ++ [vtv x] = (q ++ [x]).map vtv := by simp
theorem vSay_con (v : Vt) (h : VSz v) : Con Tryz.prog 88 [vtv v] [] (Is (msv (sayM v)) []) := by
  have hcap : capB = 140737488355328 := rfl
  refine con_intro Tryz.func88 rfl Tryz.call88 rfl ?_
  refine zW ?_; refine zW ?_
  refine zBx fun b1 => ?_
  refine zAl fun b2 => ?_
  iterate 5 refine zW ?_
  refine aops_call_v zRc (vsay_con v) rfl rfl ?_
  refine aops_call_v zRc (vmsg_con (sayM v) h.t h.votes h.acc) rfl rfl ?_
  iterate 4 refine zW ?_
  (refine zPi ?_; exact rfl)
end Go.Proofs.YtmolbagfkdbdnaaGreatDoor
