/- Walks: each says what one function of the program answers, for the arguments that its statement names. No condition beyond what each theorem says. -/
import Derived.Test.YtmolbagfkdbdnaaGreatDoorTopSilentW8
import Derived.Test.YtmolbagfkdbdnaaGreatDoorProg
import Derived.KernelRfl
import Derived.Tactics
import Derived.Tactics2
import Derived.StillTactics
import Derived.Shelf.SlSortCmp.Whole1
import Derived.Shelf.SlSortCmp.NoneTotal
import Derived.Shelf.Strconv.Atoi
set_option linter.unusedVariables false
set_option linter.unusedSimpArgs false
set_option maxRecDepth 4000
set_option maxHeartbeats 2000000
namespace Go.Proofs.YtmolbagfkdbdnaaGreatDoor
open Go Go.Av Go.Tq
theorem CloneO_con (l : List Int) (hl : l.length ≤ 1000000) : Con Tryz.prog 40 [.sl 1 (l.map .i)] [] (fun d H => ∃ v, d = .v v ∧ H = [.arr v 3 1 (l.map .i)]) := by
  have hcap : capB = 140737488355328 := rfl
  have hl1 : (l.map D.i).length = l.length := by simp
  refine con_intro Tryz.func40 rfl Tryz.call40 rfl ?_
  iterate 9 refine zW ?_
  refine aops_eqnil rfl rfl rfl rfl rfl (fun c4 hnil4 => ?_)
  refine zW ?_; refine zW ?_
  refine zC (fun hc => ?_) fun hc => ?_
  · iterate 5 refine zW ?_
    have e : l = [] := by simpa using hnil4 hc
    subst e
    refine awp_own 3 1 rfl ?_
    refine zW ?_; refine zW ?_
    refine post_ret (.tmp rfl .nil) zKeep ⟨_, rfl, rfl⟩
  · iterate 4 refine zW ?_
    refine aops_own (e := 3) (sz := 1) (by_ := 8) rfl rfl zRc rfl rfl rfl rfl (fun v5 hv5 => ?_)
    refine zW ?_
    first | refine aops_append (e := 3) (sz := 1) (by_ := 8) rfl zUpd rfl rfl rfl rfl rfl (by simp only [List.length_cons, List.length_nil, List.length_append, List.length_map, avs_len]; omega) (fun v7 hv7 => ?_) | refine aops_append_nil (e := 3) (sz := 1) (by_ := 8) rfl rfl rfl rfl rfl rfl (by simp only [List.length_cons, List.length_nil, List.length_append, List.length_map, avs_len]; omega) (fun v7 hv7 => ?_)
    iterate 4 refine zW ?_
    refine post_ret (.tmp rfl .nil) zKeep ⟨_, rfl, rfl⟩
theorem indexI0_con (f : FuncId) (p : Int → Bool) (l : List Int) (hf : ∀ k, k ∈ l → Con Tryz.prog f [.i k] [] (Is (.b (p k)) [])) : Con Tryz.prog 75 [.sl 1 (l.map .i), .v (.func (.func f) #[] #[])] [] (fun d H => ∃ r : Int, d = .i r ∧ decide (0 ≤ r) = l.any p ∧ (l.any p = false → r = -1) ∧ H = []) := by
  have hcap : capB = 140737488355328 := rfl
  have hl1 : (l.map D.i).length = l.length := by simp
  refine con_intro Tryz.func75 rfl Tryz.call75 rfl ?_
  iterate 9 refine zW ?_
  first | refine zLn fun _ => ?_ | refine zW ?_
  iterate 4 refine zW ?_
  refine awp_loop1 [0, 1, 7] [] (fun (k : Nat) r => (8, .i (k : Int)) :: r) (fun k r => r) (fun k => k ≤ l.length ∧ (l.drop k).any p = l.any p) (fun k => l.length - k) (0) zRc ⟨by omega, by simp⟩ (zWk) ?_
  intro k ⟨hk, hI⟩
  iterate 6 refine zW ?_
  refine zC (fun hc => ?_) fun hc => ?_
  · have hlt : k < l.length := by have := of_decide_eq_true hc; omega
    obtain ⟨x, hx, hd⟩ := drop_cons hlt
    have hx' := getMap D.i hx
    rw [hd] at hI
    iterate 17 refine zW ?_
    (refine aops_callv (caps := []) rfl zRc (hf x (List.mem_of_getElem? hx)) zSplit rfl rfl ?_; rintro _ _ ⟨rfl, rfl⟩; obtain ⟨c16, hc16⟩ : ∃ b, b = p x := ⟨_, rfl⟩; rw [← hc16])
    refine zW ?_; refine zW ?_
    refine zC (fun hc => ?_) fun hc => ?_
    · iterate 12 refine zW ?_
      refine post_ret (.tmp rfl .nil) zKeep ⟨_, rfl, ?_, ?_, rfl⟩
      all_goals rw [any_t (hc16.symm.trans hc)] at hI
      · rw [← hI]; exact decide_eq_true (by omega)
      · intro h; rw [← hI] at h; cases h
    · iterate 8 refine zW ?_
      rw [any_f (hc16.symm.trans hc)] at hI
      refine ⟨k + 1, ⟨by omega, hI⟩, by omega, zWk⟩
  · have hge : l.length ≤ k := by have := of_decide_eq_false hc; omega
    rw [drop_nil hge] at hI
    iterate 11 refine zW ?_
    refine post_ret (.tmp rfl .nil) zKeep ⟨_, rfl, ?_, fun _ => rfl, rfl⟩
    rw [← hI]; rfl
theorem indexI_con (b7 ty7 : Nat) (d7 : List D) (f : FuncId) (p : Int → Bool) (l : List Int) (hf : ∀ k, k ∈ l → Con Tryz.prog f [.i k, .p b7 0] [.box b7 ty7 d7] (Is (.b (p k)) [.box b7 ty7 d7])) : Con Tryz.prog 75 [.sl 1 (l.map .i), .v (.func (.func f) #[] #[.pointer (some ⟨b7, 0, none⟩)])] [.box b7 ty7 d7] (fun d H => ∃ r : Int, d = .i r ∧ decide (0 ≤ r) = l.any p ∧ (l.any p = false → r = -1) ∧ H = [.box b7 ty7 d7]) := by
  have hcap : capB = 140737488355328 := rfl
  have hl1 : (l.map D.i).length = l.length := by simp
  refine con_intro Tryz.func75 rfl Tryz.call75 rfl ?_
  iterate 9 refine zW ?_
  first | refine zLn fun _ => ?_ | refine zW ?_
  iterate 4 refine zW ?_
  refine awp_loop1 [0, 1, 7] [] (fun (k : Nat) r => (8, .i (k : Int)) :: r) (fun k r => .box b7 ty7 d7 :: r) (fun k => k ≤ l.length ∧ (l.drop k).any p = l.any p) (fun k => l.length - k) (0) zRc ⟨by omega, by simp⟩ (zWk) ?_
  intro k ⟨hk, hI⟩
  iterate 6 refine zW ?_
  refine zC (fun hc => ?_) fun hc => ?_
  · have hlt : k < l.length := by have := of_decide_eq_true hc; omega
    obtain ⟨x, hx, hd⟩ := drop_cons hlt
    have hx' := getMap D.i hx
    rw [hd] at hI
    iterate 17 refine zW ?_
    (refine aops_callv (caps := [.pointer (some ⟨b7, 0, none⟩)]) rfl zRc (hf x (List.mem_of_getElem? hx)) zSplit rfl rfl ?_; rintro _ _ ⟨rfl, rfl⟩; obtain ⟨c16, hc16⟩ : ∃ b, b = p x := ⟨_, rfl⟩; rw [← hc16])
    refine zW ?_; refine zW ?_
    refine zC (fun hc => ?_) fun hc => ?_
    · iterate 12 refine zW ?_
      refine post_ret (.tmp rfl .nil) zKeep ⟨_, rfl, ?_, ?_, rfl⟩
      all_goals rw [any_t (hc16.symm.trans hc)] at hI
      · rw [← hI]; exact decide_eq_true (by omega)
      · intro h; rw [← hI] at h; cases h
    · iterate 8 refine zW ?_
      rw [any_f (hc16.symm.trans hc)] at hI
      refine ⟨k + 1, ⟨by omega, hI⟩, by omega, zWk⟩
  · have hge : l.length ≤ k := by have := of_decide_eq_false hc; omega
    rw [drop_nil hge] at hI
    iterate 11 refine zW ?_
    refine post_ret (.tmp rfl .nil) zKeep ⟨_, rfl, ?_, fun _ => rfl, rfl⟩
    rw [← hI]; rfl
theorem containsI_con (b7 ty7 : Nat) (d7 : List D) (f : FuncId) (p : Int → Bool) (l : List Int) (hf : ∀ k, k ∈ l → Con Tryz.prog f [.i k, .p b7 0] [.box b7 ty7 d7] (Is (.b (p k)) [.box b7 ty7 d7])) : Con Tryz.prog 45 [.sl 1 (l.map .i), .v (.func (.func f) #[] #[.pointer (some ⟨b7, 0, none⟩)])] [.box b7 ty7 d7] (Is (.b (l.any p)) [.box b7 ty7 d7]) := by
  have hcap : capB = 140737488355328 := rfl
  refine con_intro Tryz.func45 rfl Tryz.call45 rfl ?_
  iterate 9 refine zW ?_
  (refine aops_call zRc (indexI_con b7 ty7 d7 f p l hf) zSplit rfl rfl ?_; rintro _ _ ⟨r, rfl, hr, _, rfl⟩)
  iterate 5 refine zW ?_
  refine zPi ?_
  rw [← hr]; rfl
theorem delI_con (f : FuncId) (p : Int → Bool) (l : List Int) (hf : ∀ k, k ∈ l → Con Tryz.prog f [.i k] [] (Is (.b (p k)) [])) (hp : l.any p = false) (v : Value) : Con Tryz.prog 39 [.v v, .v (.func (.func f) #[] #[])] [.arr v 3 1 (l.map .i)] (Is (.v v) [.arr v 3 1 (l.map .i)]) := by
  have hcap : capB = 140737488355328 := rfl
  refine con_intro Tryz.func39 rfl Tryz.call39 rfl ?_
  iterate 9 refine zW ?_
  (refine aops_call zRc (Con.borrow (pre := []) (post := [.v (.func (.func f) #[] #[])]) (l := l.map D.i) (indexI0_con f p l hf) (fun d H ⟨r, h1, _, _, h2⟩ => ⟨⟨_, h1⟩, h2⟩)) zSplit rfl rfl ?_; rintro _ _ ⟨⟨r, rfl, _, hr, _⟩, rfl⟩; obtain rfl := hr hp)
  iterate 10 refine zW ?_
  refine awp_cond_t rfl zDec ?_
  iterate 8 refine zW ?_
  (refine zPi ?_; exact rfl)
theorem le1_con (s : Int) : Con Tryz.prog 41 [.i s] [] (Is (.b (!valid s)) []) := by
  have hcap : capB = 140737488355328 := rfl
  refine con_intro Tryz.func41 rfl Tryz.call41 rfl ?_
  iterate 8 refine zW ?_
  refine aops_call_v zRc (valid_con s) rfl rfl ?_
  iterate 5 refine zW ?_
  (refine zPi ?_; exact rfl)
theorem le2_con (b t s : Nat) (ht : t < 1024) (hs : s < 1024) : Con Tryz.prog 46 [.i t, .p b 0] [.box b 3 [.i s]] (Is (.b (subB t s)) [.box b 3 [.i s]]) := by
  have hcap : capB = 140737488355328 := rfl
  refine con_intro Tryz.func46 rfl Tryz.call46 rfl ?_
  iterate 15 refine zW ?_
  (refine zPi ?_; exact rfl)
def sortN (l : List Nat) : List Nat := (sortI (l.map (fun s : Nat => (s : Int)))).map Int.toNat
theorem sortN_eq (l : List Nat) : sortI (l.map (fun s : Nat => (s : Int))) = (sortN l).map (fun s : Nat => (s : Int)) := by
  unfold sortN
  rw [List.map_map]
  symm
  refine (List.map_congr_left (g := id) fun x hx => ?_).trans (List.map_id _)
  obtain ⟨y, hy, rfl⟩ := List.mem_map.1 ((sortI_perm _).mem_iff.1 hx)
  simp
theorem sortN_mem (l : List Nat) (s : Nat) : s ∈ sortN l ↔ s ∈ l := by
  unfold sortN
  constructor
  · intro h
    obtain ⟨x, hx, rfl⟩ := List.mem_map.1 h
    obtain ⟨y, hy, rfl⟩ := List.mem_map.1 ((sortI_perm _).mem_iff.1 hx)
    simpa using hy
  · intro h
    exact List.mem_map.2 ⟨(s : Int), (sortI_perm _).mem_iff.2 (List.mem_map.2 ⟨s, h, rfl⟩), by simp⟩
theorem sortN_len (l : List Nat) : (sortN l).length = l.length := by
  unfold sortN
  rw [List.length_map, (sortI_perm _).length_eq, List.length_map]
theorem all_val {l : List Nat} (h : ∀ s ∈ l, s < 1024) : ((l.map (fun s : Nat => (s : Int))).any fun s => !valid s) = false := by
  rw [List.any_eq_false]
  intro x hx
  obtain ⟨s, hs, rfl⟩ := List.mem_map.1 hx
  rw [valid_n (h s hs)]
  decide
theorem any_sub {out : List Nat} {s : Nat} : ((out.map (fun s : Nat => (s : Int))).any fun t => subB t.toNat s) = out.any fun t => subB t s := by
  rw [List.any_map]
  congr 1
theorem le_t {out r L : List Nat} {s : Nat} {k : Nat} {M : List Nat} (h : leastGo out (L.drop k) = M) (hd : L.drop k = s :: L.drop (k + 1)) (hc : (!((out.map (fun s : Nat => (s : Int))).any fun t => subB t.toNat s)) = true) : leastGo (out ++ [s]) (L.drop (k + 1)) = M := by
  rw [any_sub] at hc
  rw [hd] at h
  simp only [leastGo] at h
  rwa [if_neg (by simpa using hc)] at h
theorem le_f {out r L : List Nat} {s : Nat} {k : Nat} {M : List Nat} (h : leastGo out (L.drop k) = M) (hd : L.drop k = s :: L.drop (k + 1)) (hc : (!((out.map (fun s : Nat => (s : Int))).any fun t => subB t.toNat s)) = false) : leastGo out (L.drop (k + 1)) = M := by
  rw [any_sub] at hc
  rw [hd] at h
  simp only [leastGo] at h
  rwa [if_pos (by simpa using hc)] at h
theorem ni_get {L : List Nat} {k s : Nat} (h : L[k]? = some s) : ((L.map (fun s : Nat => (s : Int))).map D.i)[k]? = some (.i (s : Int)) := by
  rw [List.getElem?_map, List.getElem?_map, h]; rfl
theorem ni_snoc (out : List Nat) (s : Nat) : (out.map (fun s : Nat => (s : Int))).map D.i ++ [.i (s : Int)] = ((out ++ [s]).map (fun s : Nat => (s : Int))).map D.i := by simp
theorem least_con (l : List Nat) (hl : l.length ≤ 1024) (hv : ∀ s ∈ l, s < 1024) : Con Tryz.prog 19 [.sl 1 ((l.map (fun s : Nat => (s : Int))).map .i)] [] (Is (.sl 1 (((leastGo [] (sortN l)).map (fun s : Nat => (s : Int))).map .i)) []) := by
  have hcap : capB = 140737488355328 := rfl
  obtain ⟨L, hL⟩ : ∃ L, sortN l = L := ⟨_, rfl⟩
  have hse : sortI (l.map (fun s : Nat => (s : Int))) = L.map (fun s : Nat => (s : Int)) := by rw [← hL]; exact sortN_eq l
  have hLv : ∀ s ∈ L, s < 1024 := fun s hs => hv s ((sortN_mem l s).1 (by rw [hL]; exact hs))
  have hLl : L.length = l.length := by rw [← hL]; exact sortN_len l
  have hLm : ((L.map (fun s : Nat => (s : Int))).map D.i).length = L.length := by simp
  rw [hL]
  refine con_intro Tryz.func19 rfl Tryz.call19 rfl ?_
  iterate 8 refine zW ?_
  (refine aops_call zRc (CloneO_con (l.map (fun s : Nat => (s : Int))) (by rw [List.length_map]; omega)) zSplit rfl rfl ?_; rintro _ _ ⟨v7, rfl, rfl⟩)
  (refine aops_call zRc (delI_con 41 (fun s => !valid s) (l.map (fun s : Nat => (s : Int))) (fun s _ => le1_con s) (all_val hv) v7) zSplit rfl rfl ?_; rintro _ _ ⟨rfl, rfl⟩)
  iterate 6 refine zW ?_
  (refine aops_call zRc (sortI_con v7 (l.map (fun s : Nat => (s : Int)))) zSplit rfl rfl ?_; rintro _ _ ⟨rfl, rfl⟩; rw [hse])
  iterate 11 refine zW ?_
  first | refine zLn fun _ => ?_ | refine zW ?_
  iterate 4 refine zW ?_
  refine awp_loop3 [11, 12] [.arr v7 _ _ _] (fun (k : Nat) (u : Value) (out : List Nat) r => (3, .v u) :: (13, .i (k : Int)) :: r) (fun k u out r => .arr u 3 1 ((out.map (fun s : Nat => (s : Int))).map .i) :: r) (fun k u out => k ≤ L.length ∧ leastGo out (L.drop k) = leastGo [] L ∧ (∀ s ∈ out, s < 1024) ∧ out.length ≤ k) (fun k u out => L.length - k) (0) (.slice none 0 0) ([]) zRc ⟨by omega, by simp, fun s hs => absurd hs List.not_mem_nil, by simp⟩ ((wk_own 3 1 rfl).trans (zWk)) ?_
  intro k u out ⟨hk, hI, hO, hol⟩
  iterate 6 refine zW ?_
  refine zC (fun hc => ?_) fun hc => ?_
  · have hlt : k < L.length := by have h9 := of_decide_eq_true hc; simp only [List.length_map] at h9; omega
    obtain ⟨s, hs, hd⟩ := drop_cons hlt
    have hs' := ni_get hs
    have hsm := List.mem_of_getElem? hs
    refine awp_arr_openc (v := v7) zUpd (by intro e; have h9 := congrArg List.length e; rw [hLm] at h9; simp only [List.length_nil] at h9; omega) (fun g cap hcp hv7 => ?_)
    subst hv7
    iterate 8 refine zW ?_
    refine zAl fun b5 => ?_
    iterate 7 refine zW ?_
    (refine aops_call zRc (Con.borrowB (pre := []) (post := [.v (.func (.func 46) #[] #[.pointer (some ⟨b5, 0, none⟩)])]) (v := u) (ety := 3) (sz := 1) (l := (out.map (fun s : Nat => (s : Int))).map D.i) (b := b5) (ty := 3) (xs := [.int .i64 (s : Int)]) (containsI_con b5 3 [.i (s : Int)] 46 (fun t => subB t.toNat s) (out.map (fun s : Nat => (s : Int))) (fun t ht => by obtain ⟨t, h9, rfl⟩ := List.mem_map.1 ht; exact le2_con b5 t s (hO t h9) (hLv s hsm)))) zSplit rfl rfl ?_; rintro _ _ ⟨rfl, rfl⟩)
    iterate 3 refine zW ?_
    refine zC (fun hc => ?_) fun hc => ?_
    · iterate 3 refine zW ?_
      refine aops_lit (e := 3) (sz := 1) (by_ := 8) rfl rfl zRc rfl rfl rfl rfl ?_
      first | refine aops_append (e := 3) (sz := 1) (by_ := 8) rfl zUpd rfl rfl rfl rfl rfl (by simp only [List.length_cons, List.length_nil, List.length_append, List.length_map]; omega) (fun v24 hv24 => ?_) | refine aops_append_nil (e := 3) (sz := 1) (by_ := 8) rfl rfl rfl rfl rfl rfl (by simp only [List.length_cons, List.length_nil, List.length_append, List.length_map]; omega) (fun v24 hv24 => ?_)
      iterate 9 refine zW ?_
      first
      | (rw [ni_snoc]; refine ⟨k + 1, _, _, ⟨by omega, le_t (r := []) hI hd (by with_reducible assumption), snoc_mem hO (hLv s hsm), by simp only [List.length_append, List.length_cons, List.length_nil]; omega⟩, by omega, zWk⟩)
      | (refine ⟨k + 1, u, out, ⟨by omega, le_f (r := []) hI hd (by with_reducible assumption), hO, by omega⟩, by omega, zWk⟩)
    · iterate 8 refine zW ?_
      first
      | (rw [ni_snoc]; refine ⟨k + 1, _, _, ⟨by omega, le_t (r := []) hI hd (by with_reducible assumption), snoc_mem hO (hLv s hsm), by simp only [List.length_append, List.length_cons, List.length_nil]; omega⟩, by omega, zWk⟩)
      | (refine ⟨k + 1, u, out, ⟨by omega, le_f (r := []) hI hd (by with_reducible assumption), hO, by omega⟩, by omega, zWk⟩)
  · have hge : L.length ≤ k := by have h9 := of_decide_eq_false hc; simp only [List.length_map] at h9; omega
    rw [drop_nil hge] at hI
    simp only [leastGo] at hI
    refine zFz u [3] ?_
    iterate 12 refine zW ?_
    refine zPi ?_
    rw [hI]; rfl
def quN (c : List Mem) : List Nat := ((List.range (2 ^ c.length)).filter (quorumC c))
def minQ (c : List Mem) : List Nat := leastGo [] (sortN (quN c))
theorem quN_mem (c : List Mem) (s : Nat) : s ∈ quN c ↔ s < 2 ^ c.length ∧ quorumC c s = true := by
  unfold quN
  rw [List.mem_filter, List.mem_range]
theorem quN_len {c : List Mem} (hC : Cfg c) : (quN c).length ≤ 1024 := by
  have h := List.length_filter_le (quorumC c) (List.range (2 ^ c.length))
  rw [List.length_range] at h
  exact Nat.le_trans h (pow_le10 hC.len.2)
theorem quN_lt {c : List Mem} (hC : Cfg c) : ∀ s ∈ quN c, s < 1024 := fun s hs => by
  have h1 := ((quN_mem c s).1 hs).1
  have h2 := pow_le10 hC.len.2
  omega
theorem minQ_mem {c : List Mem} {q : Nat} (h : q ∈ minQ c) : q < 2 ^ c.length ∧ quorumC c q = true := by
  have h1 := (least_mem h).resolve_left List.not_mem_nil
  exact (quN_mem c q).1 ((sortN_mem _ q).1 h1)
theorem min_law {c : List Mem} (hC : Cfg c) {gone : Nat} (hg : gone < 2 ^ c.length) : (((minQ c).any fun q => decide (q &&& gone = 0)) == !decide (((great c (((2 ^ c.length - 1) &&& (2 ^ 63 - 1 - gone) : Nat) : Int) : Nat) : Int) = 0)) = true := by
  have h := halts_law hC hg (L := sortN (quN c)) (fun s => (sortN_mem _ s).trans (quN_mem c s))
  rw [beq_iff_eq]
  cases hA : (minQ c).any fun q => decide (q &&& gone = 0) with
  | true =>
    obtain ⟨q, hq, h0⟩ := List.any_eq_true.1 hA
    rw [decide_eq_false]
    · rfl
    · intro e
      exact h.1 (by omega) q hq (of_decide_eq_true h0)
  | false =>
    rw [decide_eq_true]
    · rfl
    · have := h.2 fun q hq h0 => by
        rw [List.any_eq_false] at hA
        exact hA q hq (decide_eq_true h0)
      omega
theorem rhasn_con {s k : Nat} (hs : s < 1024) (hk : k < 10) : Con Tryz.prog 9 [.i (s : Int), .i (k : Int)] [] (Is (.b (s.testBit k)) []) := by
  have h := rhas_con (s : Int) (k : Int)
  have e : has (s : Int) (k : Int) = s.testBit k := by
    rw [Bool.eq_iff_iff, has_iff hs, Int.toNat_natCast]
    exact ⟨fun h => h.2.2, fun h => ⟨by omega, by omega, h⟩⟩
  rwa [e] at h
theorem rcl_con {l : List Cl} {x : Cl} {b : Bool} (h : hasC l x = b) : Con Tryz.prog 12 [.sl 2 (l.map clv), .agg [.i x.a, .i x.b]] [] (Is (.b b) []) := by
  rw [← h]; exact rhasC_con l x
theorem ev_ok {n q : Nat} : ∀ e ∈ (List.range n).map (evQ q), e.own = true ∧ e.fr < n := by
  intro e he
  obtain ⟨k, hk, rfl⟩ := List.mem_map.1 he
  have h1 := List.mem_range.1 hk
  unfold evQ
  split
  · exact ⟨rfl, h1⟩
  · exact ⟨rfl, h1⟩
theorem ev_own {l : List Ev} (h : ∀ e ∈ l, e.own = true) : ∀ e ∈ l, ∀ i j, e ≠ .send i j := by
  rintro e he i j rfl
  cases h _ he
theorem ev_t {x : Cl} {n q : Nat} (h : q.testBit n = true) : plyD 1 n 0 x = plyD (evQ q n).kd (evQ q n).fr 0 ((evQ q n).cl x) := by
  unfold evQ
  rw [if_pos h]
  rfl
theorem ev_f {x : Cl} {n q : Nat} (h : q.testBit n = false) : plyD 4 n 0 ⟨0, 0⟩ = plyD (evQ q n).kd (evQ q n).fr 0 ((evQ q n).cl x) := by
  unfold evQ
  rw [if_neg (by rw [h]; decide)]
  rfl
theorem ev_snoc {x : Cl} (l : List Ev) (e : Ev) : (l.map fun e => plyD e.kd e.fr 0 (e.cl x)) ++ [plyD e.kd e.fr 0 (e.cl x)] = ((l ++ [e]).map fun e => plyD e.kd e.fr 0 (e.cl x)) := by simp
theorem any_take {Q : List Nat} {k q g : Nat} (h : Q[k]? = some q) : ((Q.take (k + 1)).any fun q => decide (q &&& g = 0)) = (((Q.take k).any fun q => decide (q &&& g = 0)) || decide (q &&& g = 0)) := by
  rw [List.take_add_one, h, List.any_append]
  simp
theorem least_len : ∀ (l out : List Nat), (leastGo out l).length ≤ out.length + l.length
  | [], out => by simp [leastGo]
  | s :: r, out => by
    simp only [leastGo]
    split
    · have := least_len r out; simp only [List.length_cons]; omega
    · have := least_len r (out ++ [s]); simp only [List.length_cons, List.length_append, List.length_nil] at this ⊢; omega
theorem minQ_len {c : List Mem} (hC : Cfg c) : (minQ c).length ≤ 1024 := by
  have h := least_len (sortN (quN c)) []
  have h2 := quN_len hC
  rw [sortN_len] at h
  unfold minQ
  simp only [List.length_nil] at h
  omega
theorem x27 : validCl ⟨2, 7⟩ = true := by decide
theorem min_con (c : List Mem) (hC : Cfg c) : Con Tryz.prog 8 [cv c] [] (Is (.tup [.sl 1 (((minQ c).map (fun s : Nat => (s : Int))).map .i), .i 0]) []) := by
  have hcap : capB = 140737488355328 := rfl
  refine con_intro Tryz.func8 rfl Tryz.call8 rfl ?_
  refine zW ?_; refine zW ?_
  refine zBx fun b1 => ?_
  iterate 8 refine zW ?_
  refine aops_call_v zRc (validCfg_con hC) rfl rfl ?_
  iterate 9 refine zW ?_
  refine awp_cond_f rfl zDec ?_
  iterate 5 refine zW ?_
  refine aops_call_v zRc (tall_con c hC) rfl rfl ?_
  refine aops_call_v zRc (least_con (quN c) (quN_len hC) (quN_lt hC)) rfl rfl ?_
  iterate 5 refine zW ?_
  (refine zPi ?_; exact rfl)
theorem tsil0_con (haw : Con Tryz.prog 13 [] [] (Is (.b true) [])) (l : List Int) : Con Tryz.prog 3 [.sl 1 (l.map .i)] [] (Is (.b true) []) := by
  have hcap : capB = 140737488355328 := rfl
  refine con_intro Tryz.func3 rfl Tryz.call3 rfl ?_
  iterate 8 refine zW ?_
  (refine aops_call zRc (New_con l) zSplit rfl rfl ?_; rintro _ _ ⟨b23, rfl, rfl⟩)
  iterate 6 refine zW ?_
  (refine aops_call zRc (full_con b23 _ _) zSplit rfl rfl ?_; rintro _ _ ⟨c, a25, rfl, ⟨hC, h5⟩, rfl⟩)
  refine zAl fun b4 => ?_
  iterate 4 refine zW ?_
  have hmq := minQ_len hC
  have h10 := pow_le10 hC.len.2
  have hl10 := hC.len
  have hml : (c.map mv).length = c.length := by simp
  have hpos : 0 < 2 ^ c.length := Nat.pow_pos (by omega)
  have hpw : 2 ^ (c.map mv).length = 2 ^ c.length := by rw [hml]
  iterate 4 refine zW ?_
  first | refine zLn fun _ => ?_ | refine zW ?_
  refine aops_p (ap_shl (p := 1) rfl rfl rfl (by omega) (by omega)) rfl rfl rfl ?_
  (refine aops_call zRc (N_con _ _ _ _ (by omega)) zSplit rfl rfl ?_; rintro _ _ ⟨r31, a31, rfl, hr31, rfl⟩; obtain ⟨gone, rfl⟩ := Int.eq_ofNat_of_zero_le hr31.1)
  iterate 7 refine zW ?_
  refine aops_call_v zRc (tHalts_con c hC gone (by omega)) rfl rfl ?_
  iterate 10 refine zW ?_
  refine aops_call_v zRc (min_con c hC) rfl rfl ?_
  iterate 13 refine zW ?_
  iterate 3 all_goals first | refine zW ?_ | (refine zG (fun hg => ?_) fun hg => ?_; case' _ => refine zW ?_)
  all_goals (
    refine zW ?_; refine zW ?_
    refine awp_cond_f rfl zDec ?_
    iterate 5 refine zW ?_
    refine zAl fun b10 => ?_
    iterate 12 refine zW ?_
    first | refine zLn fun _ => ?_ | refine zW ?_
    iterate 4 refine zW ?_
    refine awp_loop2 [4, 5, 6, 10, 50, 51] [.box b4 _ _, .box b10 _ _] (fun (k : Nat) (f : Bool) r => (11, .b f) :: (52, .i (k : Int)) :: r) (fun k f r => r) (fun k f => k ≤ (minQ c).length ∧ f = (((minQ c).take k).any fun q => decide (q &&& gone = 0))) (fun k f => (minQ c).length - k) (0) (false) zRc ⟨by omega, rfl⟩ (zWk) ?_
    intro k f ⟨hk, hF⟩
    iterate 6 refine zW ?_
    refine zC (fun hc => ?_) fun hc => ?_
    · have hlt : k < (minQ c).length := by have h9 := of_decide_eq_true hc; simp only [List.length_map] at h9; omega
      obtain ⟨q, hq, hdq⟩ := drop_cons hlt
      have hq' := ni_get hq
      have hqm := minQ_mem (List.mem_of_getElem? hq)
      iterate 20 refine zW ?_
      refine zC (fun hc => ?_) fun hc => ?_
      · have hqg : ¬ q &&& gone = 0 := by have h9 := of_neq_true hc; omega
        iterate 9 refine zW ?_
        first
        | (refine ⟨k + 1, f, ⟨by omega, ?_⟩, by omega, zWk⟩; rw [any_take hq, ← hF, decide_eq_false hqg, Bool.or_false])
        | (refine ⟨k + 1, true, ⟨by omega, ?_⟩, by omega, zWk⟩; rw [any_take hq, decide_eq_true hqg, Bool.or_true])
      · have hqg : q &&& gone = 0 := by have h9 := of_neq_false hc; omega
        iterate 17 refine zW ?_
        first | refine zLn fun _ => ?_ | refine zW ?_
        iterate 4 refine zW ?_
        refine awp_loop3 [4, 5, 6, 10, 11, 13, 50, 51, 52, 62] [.box b4 _ _, .box b10 _ _] (fun (j : Nat) (w : Value) (ev : List Ev) r => (14, .v w) :: (63, .i (j : Int)) :: r) (fun j w ev r => .arr w 46 15 (ev.map fun e => plyD e.kd e.fr 0 (e.cl (⟨2, 7⟩ : Cl))) :: r) (fun j w ev => j ≤ c.length ∧ ev = (List.range j).map (evQ q)) (fun j w ev => c.length - j) (0) (.slice none 0 0) ([]) zRc ⟨by omega, rfl⟩ ((wk_own 46 15 rfl).trans (zWk)) ?_
        intro j w ev ⟨hj, hev⟩
        have hel : ev.length = j := by rw [hev]; simp
        iterate 6 refine zW ?_
        refine zC (fun hc => ?_) fun hc => ?_
        · have hjl : j < c.length := by have h9 := of_decide_eq_true hc; omega
          iterate 14 refine zW ?_
          refine aops_call_b zRc (rhasn_con (s := q) (k := j) (by omega) (by omega)) rfl rfl fun c68 hc68 => ?_
          refine zW ?_; refine zW ?_
          refine zC (fun hc => ?_) fun hc => ?_
          · iterate 4 refine zW ?_
            refine aops_p (AP.up (ap_build zKr rfl zRc zFill) (d' := plyD 1 j 0 (⟨2, 7⟩ : Cl)) (Up.agg (by repeat (first | exact UpL.nil | apply UpL.cons (by first | exact Up.same | exact Up.int | exact Up.nil))))) rfl rfl rfl ?_
            refine aops_lit (e := 46) (sz := 15) (by_ := 216) rfl rfl zRc rfl rfl rfl rfl ?_
            first | refine aops_append (e := 46) (sz := 15) (by_ := 216) rfl zUpd rfl rfl rfl rfl rfl (by simp only [List.length_cons, List.length_nil, List.length_append, List.length_map]; omega) (fun v74 hv74 => ?_) | refine aops_append_nil (e := 46) (sz := 15) (by_ := 216) rfl rfl rfl rfl rfl rfl (by simp only [List.length_cons, List.length_nil, List.length_append, List.length_map]; omega) (fun v74 hv74 => ?_)
            iterate 9 refine zW ?_
            first
            | (rw [ev_t (x := (⟨2, 7⟩ : Cl)) (hc68.trans (by with_reducible assumption)), ev_snoc]; refine ⟨j + 1, _, ev ++ [evQ q j], ⟨by omega, by rw [hev, List.range_succ, List.map_append]; rfl⟩, by omega, zWk⟩)
            | (rw [ev_f (x := (⟨2, 7⟩ : Cl)) (hc68.trans (by with_reducible assumption)), ev_snoc]; refine ⟨j + 1, _, ev ++ [evQ q j], ⟨by omega, by rw [hev, List.range_succ, List.map_append]; rfl⟩, by omega, zWk⟩)
          · iterate 3 refine zW ?_
            refine aops_p (AP.up (ap_build zKr rfl zRc zFill) (d' := plyD 4 j 0 ⟨0, 0⟩) (Up.agg (by repeat (first | exact UpL.nil | apply UpL.cons (by first | exact Up.same | exact Up.int | exact Up.nil))))) rfl rfl rfl ?_
            refine aops_lit (e := 46) (sz := 15) (by_ := 216) rfl rfl zRc rfl rfl rfl rfl ?_
            first | refine aops_append (e := 46) (sz := 15) (by_ := 216) rfl zUpd rfl rfl rfl rfl rfl (by simp only [List.length_cons, List.length_nil, List.length_append, List.length_map]; omega) (fun v79 hv79 => ?_) | refine aops_append_nil (e := 46) (sz := 15) (by_ := 216) rfl rfl rfl rfl rfl rfl (by simp only [List.length_cons, List.length_nil, List.length_append, List.length_map]; omega) (fun v79 hv79 => ?_)
            iterate 9 refine zW ?_
            first
            | (rw [ev_t (x := (⟨2, 7⟩ : Cl)) (hc68.trans (by with_reducible assumption)), ev_snoc]; refine ⟨j + 1, _, ev ++ [evQ q j], ⟨by omega, by rw [hev, List.range_succ, List.map_append]; rfl⟩, by omega, zWk⟩)
            | (rw [ev_f (x := (⟨2, 7⟩ : Cl)) (hc68.trans (by with_reducible assumption)), ev_snoc]; refine ⟨j + 1, _, ev ++ [evQ q j], ⟨by omega, by rw [hev, List.range_succ, List.map_append]; rfl⟩, by omega, zWk⟩)
        · have hjl : j = c.length := by have h9 := of_decide_eq_false hc; omega
          subst hjl
          iterate 6 refine zW ?_
          rw [hev]
          refine awp_freeze w [4,5,6,10,11,13,14,50,51,52] zRem zSelC zHeapA ?_
          iterate 3 refine zW ?_
          (refine aops_call zRc (run_con c hC h5 (⟨2, 7⟩ : Cl) x27 ((List.range c.length).map (evQ q)) (by simp; omega) ev_ok) zSplit rfl rfl ?_; rintro _ _ ⟨rfl, q9, rfl⟩)
          iterate 4 refine zW ?_
          refine zAl fun b16 => ?_
          iterate 8 refine zW ?_
          (refine aops_call zRc (calm_con c hC h5 (⟨2, 7⟩ : Cl) x27 _ (MI.run hC x27 _ (MI.begin hC)) (SegI.run (ev_own fun e he => (ev_ok e he).1))) zSplit rfl rfl ?_; rintro _ _ ⟨rfl, m1, rfl, hCal⟩)
          iterate 9 refine zW ?_
          have hlen9 : (m1.vs.map vtv).length = (c.map mv).length := by rw [hml, List.length_map]; exact hCal.mi.len
          iterate 4 refine zW ?_
          iterate 6 all_goals first | refine zW ?_ | (refine zG (fun hg => ?_) fun hg => ?_; case' _ => refine zW ?_)
          all_goals first | (refine zY ?_; (first | refine zLn fun _ => ?_ | refine zW ?_)) | refine zSk ?_ | (refine zG (fun hg => ?_) fun hg => ?_; case' _ => (first | refine zLn fun _ => ?_ | refine zW ?_))
          iterate 2 all_goals first | refine zW ?_ | (refine zG (fun hg => ?_) fun hg => ?_; case' _ => refine zW ?_)
          all_goals first | (refine zY ?_; (first | refine zLn fun _ => ?_ | refine zW ?_)) | refine zSk ?_ | (refine zG (fun hg => ?_) fun hg => ?_; case' _ => (first | refine zLn fun _ => ?_ | refine zW ?_))
          iterate 2 all_goals first | refine zW ?_ | (refine zG (fun hg => ?_) fun hg => ?_; case' _ => refine zW ?_)
          all_goals (
            refine zW ?_; refine zW ?_
            refine awp_cond_f rfl (by simp [hlen9]) ?_
            iterate 6 refine zW ?_
            first | refine zLn fun _ => ?_ | refine zW ?_
            iterate 4 refine zW ?_
            refine awp_loop1 [4, 5, 6, 10, 11, 13, 50, 51, 52, 109, 110] [.box b4 _ _, .box b10 _ _] (fun (j : Nat) r => (111, .i (j : Int)) :: r) (fun j r => r) (fun j => j ≤ m1.vs.length) (fun j => m1.vs.length - j) (0) zRc (by omega) (zWk) ?_
            intro j hj
            iterate 6 refine zW ?_
            refine zC (fun hc => ?_) fun hc => ?_
            · have hjl : j < m1.vs.length := by have h9 := of_decide_eq_true hc; simp only [List.length_map] at h9; omega
              obtain ⟨v, hv, hdv⟩ := drop_cons hjl
              have hv' := getMap vtv hv
              have hcl9 := hCal.mi.len
              iterate 9 refine zW ?_
              refine zAl fun b21 => ?_
              iterate 9 refine zW ?_
              refine aops_call_v zRc (rcl_con (silent_one hC x27 hqm.1 hqm.2 hCal.sends (hCal.quiet rfl) hv)) rfl rfl ?_
              refine zW ?_; refine zW ?_
              refine aops_call_v zRc (rhasn_con (s := q) (k := j) (by omega) (by omega)) rfl rfl ?_
              iterate 3 refine zW ?_
              refine awp_cond_f rfl (by simp) ?_
              iterate 8 refine zW ?_
              refine ⟨j + 1, by omega, by omega, zWk⟩
            · iterate 11 refine zW ?_
              first
              | (refine ⟨k + 1, f, ⟨by omega, ?_⟩, by omega, zWk⟩; rw [any_take hq, ← hF, decide_eq_false hqg, Bool.or_false])
              | (refine ⟨k + 1, true, ⟨by omega, ?_⟩, by omega, zWk⟩; rw [any_take hq, decide_eq_true hqg, Bool.or_true])
            )
    · have hge : (minQ c).length ≤ k := by have h9 := of_decide_eq_false hc; simp only [List.length_map] at h9; omega
      iterate 6 refine zW ?_
      have hf9 : f = ((minQ c).any fun q => decide (q &&& gone = 0)) := by rw [hF, List.take_of_length_le hge]
      have hw9 := min_law hC (gone := gone) (by omega)
      rw [← hf9] at hw9
      iterate 6 refine zW ?_
      all_goals first | (refine zY ?_; refine aops_call_v zRc (haw) rfl rfl ?_) | refine zSk ?_ | (refine zG (fun hg => ?_) fun hg => ?_; case' _ => refine aops_call_v zRc (haw) rfl rfl ?_)
      iterate 2 all_goals refine zW ?_
      all_goals (
        iterate 3 refine zW ?_
        (refine zPi ?_; exact rfl)
        )
    )
section
open Go.Shelf
def atoR : Ren := { f := (fun x => match x with | 172 => 174 | 244 => 195 | 245 => 196 | 247 => 215 | 279 => 216 | 280 => 217 | 281 => 218 | 282 => 219 | 287 => 225 | 316 => 226 | 171 => 100 | 205 => 227 | 321 => 236 | 322 => 237 | 243 => 144 | 246 => 170 | 283 => 191 | 284 => 192 | 285 => 193 | 286 => 194 | 129 => 118 | 317 => 211 | 318 => 212 | 319 => 213 | 320 => 214 | 337 => 223 | 338 => 224 | n => n), t := (fun x => match x with | 9 => 9 | 3 => 3 | 75 => 189 | 76 => 190 | 4 => 4 | 5 => 5 | 167 => 225 | 37 => 203 | 0 => 0 | 85 => 226 | 2 => 2 | 168 => 228 | 53 => 148 | 175 => 232 | 46 => 119 | 210 => 236 | 127 => 246 | 145 => 249 | 143 => 247 | 21 => 21 | 171 => 201 | 173 => 204 | 212 => 223 | 51 => 146 | 20 => 20 | 213 => 224 | 232 => 243 | 233 => 244 | 80 => 253 | n => n), g := (fun x => match x with | 15 => 4 | 16 => 5 | 17 => 3 | 18 => 6 | 19 => 7 | n => n) }
theorem atoL : Lays.n172 Tryz.prog atoR := {
  mixed := rfl
  f129 := Tryz.func118.trans (congrArg some (by kernel_rfl))
  f171 := Tryz.func100.trans (congrArg some (by kernel_rfl))
  f172 := Tryz.func174.trans (congrArg some (by kernel_rfl))
  f205 := Tryz.func227.trans (congrArg some (by kernel_rfl))
  f243 := Tryz.func144.trans (congrArg some (by kernel_rfl))
  f244 := Tryz.func195.trans (congrArg some (by kernel_rfl))
  f245 := Tryz.func196.trans (congrArg some (by kernel_rfl))
  f246 := Tryz.func170.trans (congrArg some (by kernel_rfl))
  f247 := Tryz.func215.trans (congrArg some (by kernel_rfl))
  f279 := Tryz.func216.trans (congrArg some (by kernel_rfl))
  f280 := Tryz.func217.trans (congrArg some (by kernel_rfl))
  f281 := Tryz.func218.trans (congrArg some (by kernel_rfl))
  f282 := Tryz.func219.trans (congrArg some (by kernel_rfl))
  f283 := Tryz.func191.trans (congrArg some (by kernel_rfl))
  f284 := Tryz.func192.trans (congrArg some (by kernel_rfl))
  f285 := Tryz.func193.trans (congrArg some (by kernel_rfl))
  f286 := Tryz.func194.trans (congrArg some (by kernel_rfl))
  f287 := Tryz.func225.trans (congrArg some (by kernel_rfl))
  f316 := Tryz.func226.trans (congrArg some (by kernel_rfl))
  f317 := Tryz.func211.trans (congrArg some (by kernel_rfl))
  f318 := Tryz.func212.trans (congrArg some (by kernel_rfl))
  f319 := Tryz.func213.trans (congrArg some (by kernel_rfl))
  f320 := Tryz.func214.trans (congrArg some (by kernel_rfl))
  f321 := Tryz.func236.trans (congrArg some (by kernel_rfl))
  f322 := Tryz.func237.trans (congrArg some (by kernel_rfl))
  f337 := Tryz.func223.trans (congrArg some (by kernel_rfl))
  f338 := Tryz.func224.trans (congrArg some (by kernel_rfl))
  t0 := Tryz.underlying0
  a0 := Tryz.isAgg0
  z0 := Tryz.sizeOf0
  v0 := Tryz.zeroValue0
  t2 := Tryz.underlying2
  a2 := Tryz.isAgg2
  z2 := Tryz.sizeOf2
  v2 := Tryz.zeroValue2
  t3 := Tryz.underlying3
  a3 := Tryz.isAgg3
  z3 := Tryz.sizeOf3
  v3 := Tryz.zeroValue3
  t4 := Tryz.underlying4
  a4 := Tryz.isAgg4
  z4 := Tryz.sizeOf4
  v4 := Tryz.zeroValue4
  t5 := Tryz.underlying5
  a5 := Tryz.isAgg5
  z5 := Tryz.sizeOf5
  v5 := Tryz.zeroValue5
  t9 := Tryz.underlying9
  a9 := Tryz.isAgg9
  z9 := Tryz.sizeOf9
  v9 := Tryz.zeroValue9
  t20 := Tryz.underlying20
  a20 := Tryz.isAgg20
  z20 := Tryz.sizeOf20
  v20 := Tryz.zeroValue20
  t21 := Tryz.underlying21
  a21 := Tryz.isAgg21
  z21 := Tryz.sizeOf21
  v21 := Tryz.zeroValue21
  t37 := Tryz.underlying203
  a37 := Tryz.isAgg203
  z37 := Tryz.sizeOf203
  v37 := Tryz.zeroValue203
  t46 := Tryz.underlying119
  a46 := Tryz.isAgg119
  z46 := Tryz.sizeOf119
  v46 := Tryz.zeroValue119
  t51 := Tryz.underlying146
  a51 := Tryz.isAgg146
  z51 := Tryz.sizeOf146
  v51 := Tryz.zeroValue146
  t53 := Tryz.underlying148
  a53 := Tryz.isAgg148
  z53 := Tryz.sizeOf148
  v53 := Tryz.zeroValue148
  t75 := Tryz.underlying189
  a75 := Tryz.isAgg189
  z75 := Tryz.sizeOf189
  v75 := Tryz.zeroValue189
  t76 := Tryz.underlying190
  a76 := Tryz.isAgg190
  z76 := Tryz.sizeOf190
  v76 := Tryz.zeroValue190
  t85 := Tryz.underlying226
  a85 := Tryz.isAgg226
  z85 := Tryz.sizeOf226
  v85 := Tryz.zeroValue226
  t127 := Tryz.underlying246
  a127 := Tryz.isAgg246
  z127 := Tryz.sizeOf246
  v127 := Tryz.zeroValue246
  t143 := Tryz.underlying247
  a143 := Tryz.isAgg247
  z143 := Tryz.sizeOf247
  v143 := Tryz.zeroValue247
  t145 := Tryz.underlying249
  a145 := Tryz.isAgg249
  z145 := Tryz.sizeOf249
  v145 := Tryz.zeroValue249
  t167 := Tryz.underlying225
  a167 := Tryz.isAgg225
  z167 := Tryz.sizeOf225
  v167 := Tryz.zeroValue225
  t168 := Tryz.underlying228
  a168 := Tryz.isAgg228
  z168 := Tryz.sizeOf228
  v168 := Tryz.zeroValue228
  t171 := Tryz.underlying201
  a171 := Tryz.isAgg201
  z171 := Tryz.sizeOf201
  v171 := Tryz.zeroValue201
  t173 := Tryz.underlying204
  a173 := Tryz.isAgg204
  z173 := Tryz.sizeOf204
  v173 := Tryz.zeroValue204
  t175 := Tryz.underlying232
  a175 := Tryz.isAgg232
  z175 := Tryz.sizeOf232
  v175 := Tryz.zeroValue232
  t210 := Tryz.underlying236
  a210 := Tryz.isAgg236
  z210 := Tryz.sizeOf236
  v210 := Tryz.zeroValue236
  t212 := Tryz.underlying223
  a212 := Tryz.isAgg223
  z212 := Tryz.sizeOf223
  v212 := Tryz.zeroValue223
  t213 := Tryz.underlying224
  a213 := Tryz.isAgg224
  z213 := Tryz.sizeOf224
  t232 := Tryz.underlying243
  a232 := Tryz.isAgg243
  z232 := Tryz.sizeOf243
  v232 := Tryz.zeroValue243
  t233 := Tryz.underlying244
  a233 := Tryz.isAgg244
  z233 := Tryz.sizeOf244
  v233 := Tryz.zeroValue244
  g15 := by kernel_rfl
  g16 := by kernel_rfl
  g17 := by kernel_rfl
  g18 := by kernel_rfl
  g19 := by kernel_rfl }
def tT : ByteArray := ⟨#[50, 32, 111, 102, 32, 40, 48, 44, 32, 49, 44, 32, 50, 41]⟩
def tX : ByteArray := ⟨#[48, 58, 32, 50, 32, 111, 102, 32, 40, 48, 44, 32, 49, 44, 32, 50, 41, 10, 49, 58, 32, 50, 32, 111, 102, 32, 40, 48, 44, 32, 49, 44, 32, 50, 41, 10, 50, 58, 32, 50, 32, 111, 102, 32, 40, 48, 44, 32, 49, 44, 32, 50, 41, 10]⟩
def tS0 : ByteArray := ⟨#[48, 58, 32, 50, 32, 111, 102, 32, 40, 48, 44, 32, 49, 44, 32, 50, 41, 10, 49, 58, 32, 50, 32, 111, 102, 32, 40, 48, 44, 32, 49, 44, 32, 50, 41, 10, 50, 58, 32, 50, 32, 111, 102, 32, 40, 48, 44, 32, 49, 44, 32, 50, 41]⟩
def atT : Nat → Nat
  | 0 => 0
  | 1 => 0
  | 2 => 2
  | 3 => 5
  | 4 => 6
  | 5 => 7
  | 6 => 9
  | 7 => 10
  | 8 => 12
  | 9 => 13
  | _ => 14
def tkT : Nat → ByteArray
  | 0 => ⟨#[]⟩
  | 1 => ⟨#[50]⟩
  | 2 => ⟨#[111, 102]⟩
  | 3 => ⟨#[40]⟩
  | 4 => ⟨#[48]⟩
  | 5 => ⟨#[44]⟩
  | 6 => ⟨#[49]⟩
  | 7 => ⟨#[44]⟩
  | 8 => ⟨#[50]⟩
  | 9 => ⟨#[41]⟩
  | _ => ⟨#[]⟩
def lnT : Nat → ByteArray
  | 0 => ⟨#[48, 58, 32, 50, 32, 111, 102, 32, 40, 48, 44, 32, 49, 44, 32, 50, 41]⟩
  | 1 => ⟨#[49, 58, 32, 50, 32, 111, 102, 32, 40, 48, 44, 32, 49, 44, 32, 50, 41]⟩
  | _ => ⟨#[50, 58, 32, 50, 32, 111, 102, 32, 40, 48, 44, 32, 49, 44, 32, 50, 41]⟩
def kT : Nat → ByteArray
  | 0 => ⟨#[48]⟩
  | 1 => ⟨#[49]⟩
  | _ => ⟨#[50]⟩
theorem trim_con : Con Tryz.prog 63 [.v (.string tX), .v (.string ⟨#[10]⟩)] [] (Is (.v (.string tS0)) []) :=
  Con.ofPure (args := [(.string tX), (.string ⟨#[10]⟩)]) (enters_of Tryz.func63 (by kernel_rfl) rfl) fun w => callRun 2000 Tryz.f63 (fun cs w => by kernel_rfl) (by kernel_rfl) (by kernel_rfl) (by kernel_rfl) (by kernel_rfl) (by kernel_rfl) (fun w => by kernel_rfl) w
theorem count_con : Con Tryz.prog 140 [.v (.string tS0), .v (.string ⟨#[10]⟩)] [] (Is (.v (.int .i64 2)) []) :=
  Con.ofPure (args := [(.string tS0), (.string ⟨#[10]⟩)]) (enters_of Tryz.func140 (by kernel_rfl) rfl) fun w => callRun 2000 Tryz.f140 (fun cs w => by kernel_rfl) (by kernel_rfl) (by kernel_rfl) (by kernel_rfl) (by kernel_rfl) (by kernel_rfl) (fun w => by kernel_rfl) w
theorem index0_con : Con Tryz.prog 141 [.v (.string tS0), .v (.string ⟨#[10]⟩)] [] (Is (.v (.int .i64 17)) []) :=
  Con.ofPure (args := [(.string tS0), (.string ⟨#[10]⟩)]) (enters_of Tryz.func141 (by kernel_rfl) rfl) fun w => callRun 6000 Tryz.f141 (fun cs w => by kernel_rfl) (by kernel_rfl) (by kernel_rfl) (by kernel_rfl) (by kernel_rfl) (by kernel_rfl) (fun w => by kernel_rfl) w
theorem index1_con : Con Tryz.prog 141 [.v (.string (tS0.extract 18 tS0.size)), .v (.string ⟨#[10]⟩)] [] (Is (.v (.int .i64 17)) []) :=
  Con.ofPure (args := [(.string (tS0.extract 18 tS0.size)), (.string ⟨#[10]⟩)]) (enters_of Tryz.func141 (by kernel_rfl) rfl) fun w => callRun 6000 Tryz.f141 (fun cs w => by kernel_rfl) (by kernel_rfl) (by kernel_rfl) (by kernel_rfl) (by kernel_rfl) (by kernel_rfl) (fun w => by kernel_rfl) w
theorem itoa0_con : Con Tryz.prog 100 [.v (.int .i64 0)] [] (Is (.v (.string (kT 0))) []) :=
  Con.ofPure (args := [(.int .i64 0)]) (enters_of Tryz.func100 (by kernel_rfl) rfl) fun w => callRun 2000 Tryz.f100 (fun cs w => by kernel_rfl) (by kernel_rfl) (by kernel_rfl) (by kernel_rfl) (by kernel_rfl) (by kernel_rfl) (fun w => by kernel_rfl) w
theorem cut0_con : Con Tryz.prog 99 [.v (.string (lnT 0)), .v (.string (kT 0 ++ (⟨#[58, 32]⟩ : ByteArray)))] [] (Is (.tup [.v (.string tT), .v (.bool true)]) []) :=
  Con.ofPureT (args := [(.string (lnT 0)), (.string (kT 0 ++ (⟨#[58, 32]⟩ : ByteArray)))]) (rs := [(.string tT), (.bool true)]) (enters_of Tryz.func99 (by kernel_rfl) rfl) fun w => callRun 2000 Tryz.f99 (fun cs w => by kernel_rfl) (by kernel_rfl) (by kernel_rfl) (by kernel_rfl) (by kernel_rfl) (by kernel_rfl) (fun w => by kernel_rfl) w
theorem itoa1_con : Con Tryz.prog 100 [.v (.int .i64 1)] [] (Is (.v (.string (kT 1))) []) :=
  Con.ofPure (args := [(.int .i64 1)]) (enters_of Tryz.func100 (by kernel_rfl) rfl) fun w => callRun 2000 Tryz.f100 (fun cs w => by kernel_rfl) (by kernel_rfl) (by kernel_rfl) (by kernel_rfl) (by kernel_rfl) (by kernel_rfl) (fun w => by kernel_rfl) w
theorem cut1_con : Con Tryz.prog 99 [.v (.string (lnT 1)), .v (.string (kT 1 ++ (⟨#[58, 32]⟩ : ByteArray)))] [] (Is (.tup [.v (.string tT), .v (.bool true)]) []) :=
  Con.ofPureT (args := [(.string (lnT 1)), (.string (kT 1 ++ (⟨#[58, 32]⟩ : ByteArray)))]) (rs := [(.string tT), (.bool true)]) (enters_of Tryz.func99 (by kernel_rfl) rfl) fun w => callRun 2000 Tryz.f99 (fun cs w => by kernel_rfl) (by kernel_rfl) (by kernel_rfl) (by kernel_rfl) (by kernel_rfl) (by kernel_rfl) (fun w => by kernel_rfl) w
theorem itoa2_con : Con Tryz.prog 100 [.v (.int .i64 2)] [] (Is (.v (.string (kT 2))) []) :=
  Con.ofPure (args := [(.int .i64 2)]) (enters_of Tryz.func100 (by kernel_rfl) rfl) fun w => callRun 2000 Tryz.f100 (fun cs w => by kernel_rfl) (by kernel_rfl) (by kernel_rfl) (by kernel_rfl) (by kernel_rfl) (by kernel_rfl) (fun w => by kernel_rfl) w
theorem cut2_con : Con Tryz.prog 99 [.v (.string (lnT 2)), .v (.string (kT 2 ++ (⟨#[58, 32]⟩ : ByteArray)))] [] (Is (.tup [.v (.string tT), .v (.bool true)]) []) :=
  Con.ofPureT (args := [(.string (lnT 2)), (.string (kT 2 ++ (⟨#[58, 32]⟩ : ByteArray)))]) (rs := [(.string tT), (.bool true)]) (enters_of Tryz.func99 (by kernel_rfl) rfl) fun w => callRun 2000 Tryz.f99 (fun cs w => by kernel_rfl) (by kernel_rfl) (by kernel_rfl) (by kernel_rfl) (by kernel_rfl) (by kernel_rfl) (fun w => by kernel_rfl) w
theorem hp0_con : Con Tryz.prog 171 [.v (.string (tT.extract (atT (0 + 1)) tT.size)), .v (.string ⟨#[111, 102]⟩)] [] (Is (.v (.bool false)) []) :=
  Con.ofPure (args := [(.string (tT.extract (atT (0 + 1)) tT.size)), (.string ⟨#[111, 102]⟩)]) (enters_of Tryz.func171 (by kernel_rfl) rfl) fun w => callRun 2000 Tryz.f171 (fun cs w => by kernel_rfl) (by kernel_rfl) (by kernel_rfl) (by kernel_rfl) (by kernel_rfl) (by kernel_rfl) (fun w => by kernel_rfl) w
theorem hp1_con : Con Tryz.prog 171 [.v (.string (tT.extract (atT (1 + 1)) tT.size)), .v (.string ⟨#[111, 102]⟩)] [] (Is (.v (.bool true)) []) :=
  Con.ofPure (args := [(.string (tT.extract (atT (1 + 1)) tT.size)), (.string ⟨#[111, 102]⟩)]) (enters_of Tryz.func171 (by kernel_rfl) rfl) fun w => callRun 2000 Tryz.f171 (fun cs w => by kernel_rfl) (by kernel_rfl) (by kernel_rfl) (by kernel_rfl) (by kernel_rfl) (by kernel_rfl) (fun w => by kernel_rfl) w
theorem hp2_con : Con Tryz.prog 171 [.v (.string (tT.extract (atT (2 + 1)) tT.size)), .v (.string ⟨#[111, 102]⟩)] [] (Is (.v (.bool false)) []) :=
  Con.ofPure (args := [(.string (tT.extract (atT (2 + 1)) tT.size)), (.string ⟨#[111, 102]⟩)]) (enters_of Tryz.func171 (by kernel_rfl) rfl) fun w => callRun 2000 Tryz.f171 (fun cs w => by kernel_rfl) (by kernel_rfl) (by kernel_rfl) (by kernel_rfl) (by kernel_rfl) (by kernel_rfl) (fun w => by kernel_rfl) w
theorem hp3_con : Con Tryz.prog 171 [.v (.string (tT.extract (atT (3 + 1)) tT.size)), .v (.string ⟨#[111, 102]⟩)] [] (Is (.v (.bool false)) []) :=
  Con.ofPure (args := [(.string (tT.extract (atT (3 + 1)) tT.size)), (.string ⟨#[111, 102]⟩)]) (enters_of Tryz.func171 (by kernel_rfl) rfl) fun w => callRun 2000 Tryz.f171 (fun cs w => by kernel_rfl) (by kernel_rfl) (by kernel_rfl) (by kernel_rfl) (by kernel_rfl) (by kernel_rfl) (fun w => by kernel_rfl) w
theorem hp4_con : Con Tryz.prog 171 [.v (.string (tT.extract (atT (4 + 1)) tT.size)), .v (.string ⟨#[111, 102]⟩)] [] (Is (.v (.bool false)) []) :=
  Con.ofPure (args := [(.string (tT.extract (atT (4 + 1)) tT.size)), (.string ⟨#[111, 102]⟩)]) (enters_of Tryz.func171 (by kernel_rfl) rfl) fun w => callRun 2000 Tryz.f171 (fun cs w => by kernel_rfl) (by kernel_rfl) (by kernel_rfl) (by kernel_rfl) (by kernel_rfl) (by kernel_rfl) (fun w => by kernel_rfl) w
theorem hp5_con : Con Tryz.prog 171 [.v (.string (tT.extract (atT (5 + 1)) tT.size)), .v (.string ⟨#[111, 102]⟩)] [] (Is (.v (.bool false)) []) :=
  Con.ofPure (args := [(.string (tT.extract (atT (5 + 1)) tT.size)), (.string ⟨#[111, 102]⟩)]) (enters_of Tryz.func171 (by kernel_rfl) rfl) fun w => callRun 2000 Tryz.f171 (fun cs w => by kernel_rfl) (by kernel_rfl) (by kernel_rfl) (by kernel_rfl) (by kernel_rfl) (by kernel_rfl) (fun w => by kernel_rfl) w
theorem hp6_con : Con Tryz.prog 171 [.v (.string (tT.extract (atT (6 + 1)) tT.size)), .v (.string ⟨#[111, 102]⟩)] [] (Is (.v (.bool false)) []) :=
  Con.ofPure (args := [(.string (tT.extract (atT (6 + 1)) tT.size)), (.string ⟨#[111, 102]⟩)]) (enters_of Tryz.func171 (by kernel_rfl) rfl) fun w => callRun 2000 Tryz.f171 (fun cs w => by kernel_rfl) (by kernel_rfl) (by kernel_rfl) (by kernel_rfl) (by kernel_rfl) (by kernel_rfl) (fun w => by kernel_rfl) w
theorem hp7_con : Con Tryz.prog 171 [.v (.string (tT.extract (atT (7 + 1)) tT.size)), .v (.string ⟨#[111, 102]⟩)] [] (Is (.v (.bool false)) []) :=
  Con.ofPure (args := [(.string (tT.extract (atT (7 + 1)) tT.size)), (.string ⟨#[111, 102]⟩)]) (enters_of Tryz.func171 (by kernel_rfl) rfl) fun w => callRun 2000 Tryz.f171 (fun cs w => by kernel_rfl) (by kernel_rfl) (by kernel_rfl) (by kernel_rfl) (by kernel_rfl) (by kernel_rfl) (fun w => by kernel_rfl) w
theorem hp8_con : Con Tryz.prog 171 [.v (.string (tT.extract (atT (8 + 1)) tT.size)), .v (.string ⟨#[111, 102]⟩)] [] (Is (.v (.bool false)) []) :=
  Con.ofPure (args := [(.string (tT.extract (atT (8 + 1)) tT.size)), (.string ⟨#[111, 102]⟩)]) (enters_of Tryz.func171 (by kernel_rfl) rfl) fun w => callRun 2000 Tryz.f171 (fun cs w => by kernel_rfl) (by kernel_rfl) (by kernel_rfl) (by kernel_rfl) (by kernel_rfl) (by kernel_rfl) (fun w => by kernel_rfl) w
theorem hp9_con : Con Tryz.prog 171 [.v (.string (tT.extract (atT (9 + 1)) tT.size)), .v (.string ⟨#[111, 102]⟩)] [] (Is (.v (.bool false)) []) :=
  Con.ofPure (args := [(.string (tT.extract (atT (9 + 1)) tT.size)), (.string ⟨#[111, 102]⟩)]) (enters_of Tryz.func171 (by kernel_rfl) rfl) fun w => callRun 2000 Tryz.f171 (fun cs w => by kernel_rfl) (by kernel_rfl) (by kernel_rfl) (by kernel_rfl) (by kernel_rfl) (by kernel_rfl) (fun w => by kernel_rfl) w
theorem ib50_con : Con Tryz.prog 172 [.v (.string ⟨#[40, 41, 44]⟩), .v (.int .u8 50)] [] (Is (.v (.int .i64 (-1))) []) :=
  Con.ofPure (args := [(.string ⟨#[40, 41, 44]⟩), (.int .u8 50)]) (enters_of Tryz.func172 (by kernel_rfl) rfl) fun w => callRun 2000 Tryz.f172 (fun cs w => by kernel_rfl) (by kernel_rfl) (by kernel_rfl) (by kernel_rfl) (by kernel_rfl) (by kernel_rfl) (fun w => by kernel_rfl) w
theorem ib40_con : Con Tryz.prog 172 [.v (.string ⟨#[40, 41, 44]⟩), .v (.int .u8 40)] [] (Is (.v (.int .i64 0)) []) :=
  Con.ofPure (args := [(.string ⟨#[40, 41, 44]⟩), (.int .u8 40)]) (enters_of Tryz.func172 (by kernel_rfl) rfl) fun w => callRun 2000 Tryz.f172 (fun cs w => by kernel_rfl) (by kernel_rfl) (by kernel_rfl) (by kernel_rfl) (by kernel_rfl) (by kernel_rfl) (fun w => by kernel_rfl) w
theorem ib48_con : Con Tryz.prog 172 [.v (.string ⟨#[40, 41, 44]⟩), .v (.int .u8 48)] [] (Is (.v (.int .i64 (-1))) []) :=
  Con.ofPure (args := [(.string ⟨#[40, 41, 44]⟩), (.int .u8 48)]) (enters_of Tryz.func172 (by kernel_rfl) rfl) fun w => callRun 2000 Tryz.f172 (fun cs w => by kernel_rfl) (by kernel_rfl) (by kernel_rfl) (by kernel_rfl) (by kernel_rfl) (by kernel_rfl) (fun w => by kernel_rfl) w
theorem ib44_con : Con Tryz.prog 172 [.v (.string ⟨#[40, 41, 44]⟩), .v (.int .u8 44)] [] (Is (.v (.int .i64 2)) []) :=
  Con.ofPure (args := [(.string ⟨#[40, 41, 44]⟩), (.int .u8 44)]) (enters_of Tryz.func172 (by kernel_rfl) rfl) fun w => callRun 2000 Tryz.f172 (fun cs w => by kernel_rfl) (by kernel_rfl) (by kernel_rfl) (by kernel_rfl) (by kernel_rfl) (by kernel_rfl) (fun w => by kernel_rfl) w
theorem ib49_con : Con Tryz.prog 172 [.v (.string ⟨#[40, 41, 44]⟩), .v (.int .u8 49)] [] (Is (.v (.int .i64 (-1))) []) :=
  Con.ofPure (args := [(.string ⟨#[40, 41, 44]⟩), (.int .u8 49)]) (enters_of Tryz.func172 (by kernel_rfl) rfl) fun w => callRun 2000 Tryz.f172 (fun cs w => by kernel_rfl) (by kernel_rfl) (by kernel_rfl) (by kernel_rfl) (by kernel_rfl) (by kernel_rfl) (fun w => by kernel_rfl) w
theorem ib41_con : Con Tryz.prog 172 [.v (.string ⟨#[40, 41, 44]⟩), .v (.int .u8 41)] [] (Is (.v (.int .i64 1)) []) :=
  Con.ofPure (args := [(.string ⟨#[40, 41, 44]⟩), (.int .u8 41)]) (enters_of Tryz.func172 (by kernel_rfl) rfl) fun w => callRun 2000 Tryz.f172 (fun cs w => by kernel_rfl) (by kernel_rfl) (by kernel_rfl) (by kernel_rfl) (by kernel_rfl) (by kernel_rfl) (fun w => by kernel_rfl) w
theorem dg48_con : Con Tryz.prog 173 [.v (.int .u8 48)] [] (Is (.v (.bool true)) []) :=
  Con.ofPure (args := [(.int .u8 48)]) (enters_of Tryz.func173 (by kernel_rfl) rfl) fun w => callRun 2000 Tryz.f173 (fun cs w => by kernel_rfl) (by kernel_rfl) (by kernel_rfl) (by kernel_rfl) (by kernel_rfl) (by kernel_rfl) (fun w => by kernel_rfl) w
theorem dg49_con : Con Tryz.prog 173 [.v (.int .u8 49)] [] (Is (.v (.bool true)) []) :=
  Con.ofPure (args := [(.int .u8 49)]) (enters_of Tryz.func173 (by kernel_rfl) rfl) fun w => callRun 2000 Tryz.f173 (fun cs w => by kernel_rfl) (by kernel_rfl) (by kernel_rfl) (by kernel_rfl) (by kernel_rfl) (by kernel_rfl) (fun w => by kernel_rfl) w
theorem dg50_con : Con Tryz.prog 173 [.v (.int .u8 50)] [] (Is (.v (.bool true)) []) :=
  Con.ofPure (args := [(.int .u8 50)]) (enters_of Tryz.func173 (by kernel_rfl) rfl) fun w => callRun 2000 Tryz.f173 (fun cs w => by kernel_rfl) (by kernel_rfl) (by kernel_rfl) (by kernel_rfl) (by kernel_rfl) (by kernel_rfl) (fun w => by kernel_rfl) w
theorem dg32_con : Con Tryz.prog 173 [.v (.int .u8 32)] [] (Is (.v (.bool false)) []) :=
  Con.ofPure (args := [(.int .u8 32)]) (enters_of Tryz.func173 (by kernel_rfl) rfl) fun w => callRun 2000 Tryz.f173 (fun cs w => by kernel_rfl) (by kernel_rfl) (by kernel_rfl) (by kernel_rfl) (by kernel_rfl) (by kernel_rfl) (fun w => by kernel_rfl) w
theorem dg44_con : Con Tryz.prog 173 [.v (.int .u8 44)] [] (Is (.v (.bool false)) []) :=
  Con.ofPure (args := [(.int .u8 44)]) (enters_of Tryz.func173 (by kernel_rfl) rfl) fun w => callRun 2000 Tryz.f173 (fun cs w => by kernel_rfl) (by kernel_rfl) (by kernel_rfl) (by kernel_rfl) (by kernel_rfl) (by kernel_rfl) (fun w => by kernel_rfl) w
theorem dg41_con : Con Tryz.prog 173 [.v (.int .u8 41)] [] (Is (.v (.bool false)) []) :=
  Con.ofPure (args := [(.int .u8 41)]) (enters_of Tryz.func173 (by kernel_rfl) rfl) fun w => callRun 2000 Tryz.f173 (fun cs w => by kernel_rfl) (by kernel_rfl) (by kernel_rfl) (by kernel_rfl) (by kernel_rfl) (by kernel_rfl) (fun w => by kernel_rfl) w
theorem ato1_con : Con Tryz.prog 174 [.v (.string (tkT 1))] [] (Is (.tup [.v (.int .i64 2), .v .nilIface]) []) :=
  Con.ofBytes (args := [.string (tkT 1)]) (rs := [.int .i64 2, .nilIface]) (e := 5) (enters_of Tryz.func174 (by kernel_rfl) rfl) fun w => Any.strconv_Atoi atoL (tkT 1) 2 (by decide) (by decide) w
theorem ato4_con : Con Tryz.prog 174 [.v (.string (tkT 4))] [] (Is (.tup [.v (.int .i64 0), .v .nilIface]) []) :=
  Con.ofBytes (args := [.string (tkT 4)]) (rs := [.int .i64 0, .nilIface]) (e := 5) (enters_of Tryz.func174 (by kernel_rfl) rfl) fun w => Any.strconv_Atoi atoL (tkT 4) 0 (by decide) (by decide) w
theorem ato6_con : Con Tryz.prog 174 [.v (.string (tkT 6))] [] (Is (.tup [.v (.int .i64 1), .v .nilIface]) []) :=
  Con.ofBytes (args := [.string (tkT 6)]) (rs := [.int .i64 1, .nilIface]) (e := 5) (enters_of Tryz.func174 (by kernel_rfl) rfl) fun w => Any.strconv_Atoi atoL (tkT 6) 1 (by decide) (by decide) w
theorem ato8_con : Con Tryz.prog 174 [.v (.string (tkT 8))] [] (Is (.tup [.v (.int .i64 2), .v .nilIface]) []) :=
  Con.ofBytes (args := [.string (tkT 8)]) (rs := [.int .i64 2, .nilIface]) (e := 5) (enters_of Tryz.func174 (by kernel_rfl) rfl) fun w => Any.strconv_Atoi atoL (tkT 8) 2 (by decide) (by decide) w
theorem str3_made : tmade Tryz.prog 9 (3 * 1) = some [.string ⟨#[]⟩, .string ⟨#[]⟩, .string ⟨#[]⟩] := by kernel_rfl
theorem repE_str {w : World} {O : Nat → Prop} {s : ByteArray} {l : List D} {cs : List Value} (h : RepE w O 1 l cs) : RepE w O 1 (.v (.string s) :: l) (.string s :: cs) := by
  simp only [RepE, Rep]
  refine ⟨.string s, cs, by simp [Value.cells], by simp [Value.cells], ?_, rfl, h⟩
  intro u hu
  simp only [Value.cells, List.mem_singleton] at hu
  subst hu
  rfl
theorem str3_zero (w : World) (O : Nat → Prop) : RepE w O 1 [.v (.string ⟨#[]⟩), .v (.string ⟨#[]⟩), .v (.string ⟨#[]⟩)] [.string ⟨#[]⟩, .string ⟨#[]⟩, .string ⟨#[]⟩] := repE_str (repE_str (repE_str (by simp [RepE])))
end
end Go.Proofs.YtmolbagfkdbdnaaGreatDoor
