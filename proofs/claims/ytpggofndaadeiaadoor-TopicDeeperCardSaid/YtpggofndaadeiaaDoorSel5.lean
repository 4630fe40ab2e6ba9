/- Plain laws. -/
import Derived.Test.YtpggofndaadeiaaDoorSel4
set_option linter.unusedSimpArgs false
set_option linter.unusedVariables false
set_option maxRecDepth 100000
set_option maxRecDepth 100000
namespace Go.Rv
open Go.Lib
def FG : List (List UInt8) := [[97], [43], [98], [], [99], [97], [43], [98]]
theorem fg_all (x : List UInt8) (h : x ∈ FG) : x.length ≤ 1 ∧ 47 ∉ x ∧ (x = [43] ∨ wild x = false) ∧ x ≠ [35] ∧ good x = true ∧ (∀ b ∈ x, b ≠ 115 ∧ b ≠ 35) := by
  have : ∀ x ∈ FG, x.length ≤ 1 ∧ 47 ∉ x ∧ (x = [43] ∨ wild x = false) ∧ x ≠ [35] ∧ good x = true ∧ (∀ b ∈ x, b ≠ 115 ∧ b ≠ 35) := by decide +kernel
  exact this x h
theorem ff_loop (s : List UInt8) : ∀ (f i : Nat) (M : List (List UInt8)), f + i = 6 → M.length ≤ i → (∀ x ∈ M, x ∈ FG) →
    ∃ M', M'.length ≤ 6 ∧ (∀ x ∈ M', x ∈ FG) ∧ iter (r04_FixFilter_l0 s (some FG)) (js ([116] :: M), (i : Int)) = some (js ([116] :: M')) := by
  intro f
  induction f with
  | zero =>
    intro i M hi hn hM
    refine ⟨M, by omega, hM, ?_⟩
    rw [iter_eq]
    simp only [r04_FixFilter_l0, r04_FixFilter_b0]
    by_cases h : i < s.length
    · rw [if_pos (by simp; omega), if_neg (by simp; omega)]
    · rw [if_neg (by simp; omega)]
  | succ f ih =>
    intro i M hi hn hM
    by_cases h : i < s.length
    · have hc := s[i].toNat_lt
      have hm : s[i].toNat % 8 < FG.length := by
        show _ < 8; omega
      have hw : FG[s[i].toNat % 8] ∈ FG := List.getElem_mem hm
      obtain ⟨M', h1, h2, h3⟩ := ih (i + 1) (M ++ [FG[s[i].toNat % 8]]) (by omega) (by simp; omega) (fun x hx => by
        rcases List.mem_append.1 hx with hx | hx
        · exact hM x hx
        · simp at hx; rw [hx]; exact hw)
      refine ⟨M', h1, h2, ?_⟩
      rw [iter_eq]
      simp only [r04_FixFilter_l0, r04_FixFilter_b0]
      have e0 : w64 (s[i].toNat : Int) = (s[i].toNat : Int) := w64_id (by omega) (by omega)
      have e1 : ((s[i].toNat : Int)).tmod 8 = ((s[i].toNat % 8 : Nat) : Int) := by
        rw [Int.tmod_eq_emod_of_nonneg (by omega)]; simp
      have e2 : ix (L (some FG)) ((s[i].toNat % 8 : Nat) : Int) = some (FG[s[i].toNat % 8]) := by
        rw [ix_nat]; exact List.getElem?_eq_getElem hm
      have ew : w64 ((i : Int) + 1) = ((i + 1 : Nat) : Int) := by rw [w64_id (by omega) (by omega)]; simp
      have hb : (js ([116] :: M)).length ≤ 7 * 2 := by
        have := js_len (l := [116] :: M) (m := 1) (fun x hx => by
          rcases List.mem_cons.1 hx with rfl | hx
          · simp
          · exact (fg_all x (hM x hx)).1)
        refine Nat.le_trans this (Nat.mul_le_mul_right _ ?_)
        simp; omega
      have hl2 := (fg_all _ hw).1
      have ej : js ([116] :: (M ++ [FG[s[i].toNat % 8]])) = js ([116] :: M) ++ [47] ++ FG[s[i].toNat % 8] := by
        rw [← List.cons_append, js_snoc _ (by simp)]; simp
      rw [ej] at h3
      rw [if_pos (by simp; omega), if_pos (by simp; omega), cat_ok (by omega) (by simp), Option.bind_some, ix_nat, List.getElem?_eq_getElem h, Option.bind_some, e0, e1]
      rw [show chk (decide (8 ≠ 0)) = some () from rfl, Option.bind_some, e2, Option.bind_some, cat_ok (by simp; omega) (by omega), Option.bind_some, ew]
      exact h3
    · refine ⟨M, by omega, hM, ?_⟩
      rw [iter_eq]
      simp only [r04_FixFilter_l0, r04_FixFilter_b0]
      rw [if_neg (by simp; omega)]
/-- A filter made to be one. -/
def FF (F : List UInt8) : Prop := F.length ≤ 60 ∧ ((∃ G, F = G ++ [35]) ∨ ∃ M, M.length ≤ 6 ∧ (∀ x ∈ M, x ∈ FG) ∧ (F = js ([116] :: M) ∨ F = shP ++ ([103] ++ 47 :: js ([116] :: M))))
theorem ff_c2 (a F : List UInt8) (h : FF F) : ∃ G, FF G ∧ r04_FixFilter_c2 a F (fun x => some x) = some G := by
  simp only [r04_FixFilter_c2]
  by_cases h2 : 2 < a.length
  · rw [if_pos (by simp; omega)]
    have := ix_nat (l := a) (i := 2)
    rw [show ((2 : Nat) : Int) = 2 from rfl, List.getElem?_eq_getElem h2] at this
    rw [this, Option.bind_some]
    split
    · exact ⟨[35], ⟨by simp, .inl ⟨[], rfl⟩⟩, rfl⟩
    · exact ⟨F, h, rfl⟩
  · rw [if_neg (by simp; omega)]; exact ⟨F, h, rfl⟩
theorem ff_c1 (a F : List UInt8) (hl : F.length ≤ 50) (h : (∃ G, F = G ++ [35]) ∨ ∃ M, M.length ≤ 6 ∧ (∀ x ∈ M, x ∈ FG) ∧ F = js ([116] :: M)) : ∃ G, FF G ∧ r04_FixFilter_c1 a F (fun x => some x) = some G := by
  have h0 : FF F := ⟨by omega, h.imp id fun ⟨M, a, b, c⟩ => ⟨M, a, b, .inl c⟩⟩
  simp only [r04_FixFilter_c1]
  by_cases h2 : 1 < a.length
  · rw [if_pos (by simp; omega)]
    have := ix_nat (l := a) (i := 1)
    rw [show ((1 : Nat) : Int) = 1 from rfl, List.getElem?_eq_getElem h2] at this
    rw [this, Option.bind_some]
    split
    · rw [cat_ok (by simp) (by omega), Option.bind_some]
      refine ff_c2 a _ ⟨by simp; omega, ?_⟩
      rcases h with ⟨G, rfl⟩ | ⟨M, a, b, rfl⟩
      · exact .inl ⟨_, by rw [← List.append_assoc]⟩
      · exact .inr ⟨M, a, b, .inr rfl⟩
    · exact ff_c2 a F h0
  · rw [if_neg (by simp; omega)]; exact ff_c2 a F h0
theorem ff_eq (a : List UInt8) : ∃ F, FF F ∧ r04_FixFilter a = some F := by
  obtain ⟨M, h1, h2, h3⟩ := ff_loop a 6 0 [] rfl (Nat.le_refl _) (by simp)
  rw [show (((0 : Nat) : Int)) = 0 from rfl] at h3
  have h4 : iter (r04_FixFilter_l0 a (some [[97], [43], [98], [], [99], [97], [43], [98]])) ([116], 0) = some (js ([116] :: M)) := h3
  have hb : (js ([116] :: M)).length ≤ 7 * 2 := by
    have := js_len (l := [116] :: M) (m := 1) (fun x hx => by
      rcases List.mem_cons.1 hx with rfl | hx
      · simp
      · exact (fg_all x (h2 x hx)).1)
    refine Nat.le_trans this (Nat.mul_le_mul_right _ ?_)
    simp; omega
  simp only [r04_FixFilter, h4, Option.bind_some]
  by_cases h0 : 0 < a.length
  · rw [if_pos (by simp; omega)]
    have := ix_nat (l := a) (i := 0)
    rw [show ((0 : Nat) : Int) = 0 from rfl, List.getElem?_eq_getElem h0] at this
    rw [this, Option.bind_some]
    split
    · rw [cat_ok (a := js ([116] :: M)) (by omega) (by simp), Option.bind_some]
      exact ff_c1 a (js ([116] :: M) ++ [47, 35]) (by rw [List.length_append]; simp only [List.length_cons, List.length_nil]; omega) (.inl ⟨js ([116] :: M) ++ [47], by simp⟩)
    · exact ff_c1 a (js ([116] :: M)) (by omega) (.inr ⟨M, h1, h2, rfl⟩)
  · rw [if_neg (by rw [decide_eq_true_eq]; omega)]
    exact ff_c1 a (js ([116] :: M)) (by omega) (.inr ⟨M, h1, h2, rfl⟩)
/-- What a filter of that make wants, with more behind. -/
theorem ff_match (M : List (List UInt8)) (hM : ∀ x ∈ M, x ∈ FG) (F : List UInt8) (hF : F = js ([116] :: M) ∨ F = shP ++ ([103] ++ 47 :: js ([116] :: M))) (S : List (List UInt8)) (hS : ∀ x ∈ S, 47 ∉ x ∧ good x = true ∧ (∀ b ∈ x, b ≠ 115))
    (hp : plainL ([116] :: M ++ S) = true) (n : List UInt8) (hn : nameB n = true) (hd : n.take 1 = [116]) (tail : List UInt8) (ht : tail = (if S = [] then [] else 47 :: js S)) : matchB (F ++ tail) n = matchL ([116] :: M ++ S) (lv n) := by
  have hall : ∀ x ∈ [116] :: M ++ S, 47 ∉ x ∧ good x = true ∧ (∀ b ∈ x, b ≠ 115) := by
    intro x hx
    rcases List.mem_append.1 hx with hx | hx
    · rcases List.mem_cons.1 hx with rfl | hx
      · exact ⟨by decide, by decide +kernel, by decide⟩
      · have := fg_all x (hM x hx)
        exact ⟨this.2.1, this.2.2.2.2.1, fun b hb => (this.2.2.2.2.2 b hb).1⟩
    · exact hS x hx
  have hcat : js ([116] :: M) ++ tail = js ([116] :: M ++ S) := by
    rw [ht]
    have gen : ∀ (A B : List (List UInt8)), A ≠ [] → js A ++ (if B = [] then [] else 47 :: js B) = js (A ++ B) := by
      intro A B hA
      induction A with
      | nil => exact absurd rfl hA
      | cons x A ih =>
        cases A with
        | nil =>
          cases B with
          | nil => simp [js]
          | cons y B =>
            rw [if_neg (by simp)]
            simp only [List.cons_append, List.nil_append]
            rw [js_cons x (l := y :: B) (by simp)]; rfl
        | cons z A =>
          rw [js_cons x (by simp), List.cons_append, js_cons x (by simp), List.append_assoc, List.cons_append, ih (by simp)]
    exact gen _ _ (by simp)
  have hlv : lv (js ([116] :: M ++ S)) = [116] :: M ++ S := lv_js (by simp) fun x hx => (hall x hx).1
  have hg : good (js ([116] :: M ++ S)) = true := js_good fun x hx => (hall x hx).2.1
  have hdl : ∀ f, dollar f n = false := fun f => by simp [dollar, hd]
  have hne : js ([116] :: M ++ S) ≠ [] := by
    cases h : M ++ S with
    | nil => simp [js, h]
    | cons x l => rw [List.cons_append, h, js_cons _ (by simp)]; simp
  have hpl : plainB (js ([116] :: M ++ S)) = true := plainB_of hne (by rw [hlv]; exact hp)
  rcases hF with rfl | rfl
  · rw [hcat]
    have h7 : (js ([116] :: M ++ S)).take 7 ≠ shP := take7 fun b hb => by
      rcases mem_js hb with rfl | ⟨x, hx, hbx⟩
      · decide
      · exact (hall x hx).2.2 b hbx
    rw [matchB_plain _ h7, hg, hpl, hn, hdl, hlv]; rfl
  · have e : shP ++ ([103] ++ 47 :: js ([116] :: M)) ++ tail = shP ++ ([103] ++ 47 :: js ([116] :: M ++ S)) := by
      rw [← hcat]; simp
    rw [e, matchB_share [103] _ n (by decide) (by decide) (by decide) (good_cat (by decide +kernel) (by rw [good47]; exact hg)) hpl, hn, hdl, hlv]; rfl
theorem deeper_law (a b : List UInt8) : l04_TopicDeeper a b = some true := by
  simp only [l04_TopicDeeper]
  have hc := cut_slc a 6 (by omega)
  rw [show ((6 : Nat) : Int) = 6 from rfl] at hc
  rw [hc, Option.bind_some]
  obtain ⟨F, ⟨hFl, hF⟩, e1⟩ := ff_eq (a.take 6)
  obtain ⟨m, q, hm, hq, h0, e2⟩ := tfix_eq b
  have hql := hq.len
  rw [e1, Option.bind_some, e2, Option.bind_some, cat_ok (by simp) (by omega), Option.bind_some]
  rcases hF with ⟨G, rfl⟩ | ⟨M, hM1, hM, hF⟩
  · have ei : ix (G ++ [35]) (w64 (((G ++ [35]).length : Int) - 1)) = some 35 := by
      have hgl : (G ++ [35]).length = G.length + 1 := by simp
      rw [hgl] at hFl ⊢
      rw [w64_id (by omega) (by omega), show (((G.length + 1 : Nat) : Int) - 1) = ((G.length : Nat) : Int) by omega, ix_nat]
      simp
    rw [ei, Option.bind_some, if_pos (by decide), l04_told_true]; rfl
  · have hF0 : F ≠ [] := by
      rcases hF with rfl | rfl
      · cases M with
        | nil => decide
        | cons x M => rw [js_cons _ (by simp)]; simp
      · simp
    have hF35 : ∀ c ∈ F, c ≠ 35 := by
      have hj : ∀ c ∈ js ([116] :: M), c ≠ 35 := by
        intro c hc
        rcases mem_js hc with rfl | ⟨x, hx, hbx⟩
        · decide
        · rcases List.mem_cons.1 hx with rfl | hx
          · simp at hbx; subst hbx; decide
          · exact ((fg_all x (hM x hx)).2.2.2.2.2 c hbx).2
      intro c hc
      rcases hF with rfl | rfl
      · exact hj c hc
      · rcases List.mem_append.1 hc with hc | hc
        · exact (by decide : ∀ c ∈ shP, c ≠ 35) c hc
        · rcases List.mem_append.1 hc with hc | hc
          · simp at hc; subst hc; decide
          · rcases List.mem_cons.1 hc with rfl | hc
            · decide
            · exact hj c hc
    have hlen : F.length ≠ 0 := fun e => hF0 (List.length_eq_zero_iff.1 e)
    have hlt : F.length - 1 < F.length := by omega
    have ei : ix F (w64 ((F.length : Int) - 1)) = some F[F.length - 1] := by
      rw [w64_id (by omega) (by omega), show ((F.length : Int) - 1) = ((F.length - 1 : Nat) : Int) by omega, ix_nat, List.getElem?_eq_getElem hlt]
    rw [ei, Option.bind_some, if_neg (by simpa using hF35 _ (List.getElem_mem hlt))]
    have hqw : wild q = false := not_wild fun b h => ⟨(hq.bytes b h).2.1, (hq.bytes b h).2.2.1⟩
    -- the names
    have hname : ∀ t : List UInt8, good t = true → wild t = false → nameB ([116, 47] ++ q ++ t) = true := by
      intro t h1 h2
      have g : good ([116, 47] ++ q ++ t) = true := good_cat (good_cat (by decide +kernel) hq.good) h1
      have w : wild ([116, 47] ++ q ++ t) = false := not_wild fun b hb => by
        rcases List.mem_append.1 hb with hb | hb
        · rcases List.mem_append.1 hb with hb | hb
          · exact (by decide : ∀ b ∈ ([116, 47] : List UInt8), b ≠ 43 ∧ b ≠ 35) b hb
          · exact ⟨(hq.bytes b hb).2.1, (hq.bytes b hb).2.2.1⟩
        · constructor
          · rintro rfl; simp [wild, hb] at h2
          · rintro rfl; simp [wild, hb] at h2
      rw [nameB, g, w]; simp
    have hlvn : ∀ t : List UInt8, lv ([116, 47] ++ q ++ 47 :: t) = [116] :: lv q ++ lv t := by
      intro t
      rw [lv_cat]
      rfl
    have hlvn0 : lv ([116, 47] ++ q) = [116] :: lv q := rfl
    have hpM : ∀ x ∈ [116] :: M, x = [43] ∨ wild x = false := by
      intro x hx
      rcases List.mem_cons.1 hx with rfl | hx
      · exact .inr rfl
      · exact (fg_all x (hM x hx)).2.2.1
    have h35 : [35] ∉ [116] :: M := by
      intro h
      rcases List.mem_cons.1 h with h | h
      · cases h
      · exact (fg_all _ (hM _ h)).2.2.2.1 rfl
    have M0 : matchB F ([116, 47] ++ q) = matchL ([116] :: M) ([116] :: lv q) := by
      have := ff_match M hM F hF [] (by simp) (by rw [List.append_nil]; exact plain_of hpM) ([116, 47] ++ q) (by have := hname [] good_nil rfl; simpa using this) rfl [] rfl
      rw [List.append_nil, List.append_nil] at this
      rw [this, hlvn0]
    have M1 : ∀ (x y : List UInt8), x ∈ [[120], [43]] → y ∈ [[120], [121]] → matchB (F ++ (47 :: x)) ([116, 47] ++ q ++ (47 :: y)) = (matchL ([116] :: M) ([116] :: lv q) && (decide (x = [43]) || decide (x = y))) := by
      intro x y hx hy
      have hx2 : 47 ∉ x ∧ good x = true ∧ (∀ b ∈ x, b ≠ 115) ∧ (x = [43] ∨ wild x = false) ∧ x ≠ [35] := by
        have : ∀ x ∈ ([[120], [43]] : List (List UInt8)), 47 ∉ x ∧ good x = true ∧ (∀ b ∈ x, b ≠ 115) ∧ (x = [43] ∨ wild x = false) ∧ x ≠ [35] := by decide +kernel
        exact this x hx
      have hy2 : good (47 :: y) = true ∧ wild (47 :: y) = false ∧ lv y = [y] := by
        have : ∀ y ∈ ([[120], [121]] : List (List UInt8)), good (47 :: y) = true ∧ wild (47 :: y) = false ∧ lv y = [y] := by decide +kernel
        exact this y hy
      have := ff_match M hM F hF [x] (by simpa using ⟨hx2.1, hx2.2.1, hx2.2.2.1⟩) (plain_of fun z hz => by
        rcases List.mem_append.1 hz with hz | hz
        · exact hpM z hz
        · simp at hz; rw [hz]; exact hx2.2.2.2.1) ([116, 47] ++ q ++ (47 :: y)) (hname _ hy2.1 hy2.2.1) rfl (47 :: x) (by simp [js])
      rw [this, hlvn, hy2.2.2]
      exact match_snoc h35 hx2.2.2.2.2
    have M4 : matchL ([116] :: M) ([116] :: lv q) = true → matchB (F ++ [47, 35]) ([116, 47] ++ q ++ [47, 121, 47, 122]) = true := by
      intro h
      have := ff_match M hM F hF [[35]] (by simp; decide +kernel) (plain_last hpM) ([116, 47] ++ q ++ [47, 121, 47, 122]) (hname _ (by decide +kernel) (by decide)) rfl [47, 35] (by simp [js])
      rw [this, show ([47, 121, 47, 122] : List UInt8) = 47 :: [121, 47, 122] from rfl, hlvn]
      exact match_cat _ h
    have l1 : ([116, 47] ++ q).length ≤ 100 := by simp; omega
    have ec : ∀ t : List UInt8, t.length ≤ 10 → catS F t = some (F ++ t) := fun t h => cat_ok (by omega) (by omega)
    have ec2 : ∀ t : List UInt8, t.length ≤ 10 → catS ([116, 47] ++ q) t = some ([116, 47] ++ q ++ t) := fun t h => cat_ok (by omega) (by omega)
    generalize [116, 47] ++ q = N at *
    have ml : ∀ s t : List UInt8, s.length ≤ 10 → t.length ≤ 10 → topic_Match (F ++ s) (N ++ t) = some (matchB (F ++ s) (N ++ t)) := fun s t h1 h2 => tMatch_eq _ _ (by simp; omega) (by simp; omega)
    rw [tMatch_eq F N (by omega) (by omega), M0, Option.bind_some, l04_told_true, Option.bind_some, if_pos rfl, ec _ (by simp), Option.bind_some, ec2 _ (by simp), Option.bind_some, ml _ _ (by simp) (by simp), M1 [120] [120] (by simp) (by simp), Option.bind_some]
    rw [if_pos (by simp), Option.bind_some, ec2 _ (by simp), Option.bind_some, ml _ _ (by simp) (by simp), M1 [120] [121] (by simp) (by simp), Option.bind_some, if_pos (by simp), ec _ (by simp), Option.bind_some, Option.bind_some, ml _ _ (by simp) (by simp), M1 [43] [121] (by simp) (by simp), Option.bind_some, if_pos (by simp)]
    cases hI : matchL ([116] :: M) ([116] :: lv q) with
    | false => rfl
    | true =>
      rw [if_neg (by simp), ec _ (by simp), Option.bind_some, ec2 _ (by simp), Option.bind_some, ml _ _ (by simp) (by simp), M4 hI]
      rfl
theorem pure_TopicDeeper (x : tyL Tb [.g (.f (.a .s)), .g (.f (.a .s))]) (hx : szArgs tab 4 [.g (.f (.a .s)), .g (.f (.a .s))] x) : l04_TopicDeeper x.1 x.2.1 = some true := deeper_law _ _
end Go.Rv
