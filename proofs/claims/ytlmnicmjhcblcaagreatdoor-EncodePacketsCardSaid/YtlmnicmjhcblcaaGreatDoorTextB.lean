/- Plain laws. -/
import Derived.Test.YtlmnicmjhcblcaaGreatDoorTextA
set_option linter.unusedSimpArgs false
set_option linter.unusedVariables false
set_option maxRecDepth 100000
namespace Go.Rv
-- ---------- a Connect, by the document ----------
theorem xv191 (b : Bool) (n : Int) : fn161 b n = some (if b then n else 0) := by cases b <;> rfl
theorem xv168 (a b c d e : Bool) (q : UInt8) (hq : ¬ q > 2) : u8 (w64 ((w64 ((w64 ((w64 ((w64 ((if a then (2 : Int) else 0) + (if b then (4 : Int) else 0))) + (w64 (8 * (w64 (q.toNat : Int)))))) + (if c then (32 : Int) else 0))) + (if d then (64 : Int) else 0))) + (if e then (128 : Int) else 0))) = ((((fl a 2 ||| fl b 4) ||| (8 * q)) ||| fl c 32) ||| fl d 64) ||| fl e 128 := by
  have h : q.toNat ≤ 2 := by
    have : ¬ (2 : UInt8).toNat < q.toNat := hq
    have e2 : (2 : UInt8).toNat = 2 := rfl
    omega
  have : q = 0 ∨ q = 1 ∨ q = 2 := by
    have h3 : q.toNat = 0 ∨ q.toNat = 1 ∨ q.toNat = 2 := by omega
    rcases h3 with h3 | h3 | h3
    . exact .inl (UInt8.toNat_inj.1 h3)
    . exact .inr (.inl (UInt8.toNat_inj.1 h3))
    . exact .inr (.inr (UInt8.toNat_inj.1 h3))
  rcases this with rfl | rfl | rfl <;> cases a <;> cases b <;> cases c <;> cases d <;> cases e <;> decide +kernel
theorem xv247 (v : Int) (p : fn105) (h : Txt p) (hq : ¬ p.WillQoS > 2) : ∃ x, fn83 v p = some x ∧ L x = conB v p := by
  have hl : lim = 140737488300000 := rfl
  have h1 := h.cl
  have h2 := h.wt
  have h3 := h.wl
  have h4 := h.us
  have h5 := h.ps
  have hp := h.pp
  have hw := h.wp
  have c1 : ∀ (x : Option (List UInt8)) (k : Option (List UInt8) -> Option (Option (List UInt8))), (L x).length ≤ 100000000 -> ∃ y, fn83_c1 x p k = k y ∧ L y = L x ++ if p.HasPass then binN p.Pass else [] := fun x k hx => by
    simp only [fn83_c1]
    cases p.HasPass with
    | false => exact ⟨x, rfl, by simp⟩
    | true => exact ⟨some (L x ++ binN p.Pass), by rw [if_pos rfl, xv27 x _ h5 (by omega)]; rfl, rfl⟩
  have c0 : ∀ (x : Option (List UInt8)) (k : Option (List UInt8) -> Option (Option (List UInt8))), (L x).length ≤ 90000000 -> ∃ y, fn83_c0 x p k = k y ∧ L y = L x ++ ((if p.HasUser then binN p.User else []) ++ if p.HasPass then binN p.Pass else []) := fun x k hx => by
    simp only [fn83_c0]
    cases p.HasUser with
    | false =>
      obtain ⟨y, e1, e2⟩ := c1 x k (by omega)
      exact ⟨y, e1, by rw [e2]; simp⟩
    | true =>
      rw [if_pos rfl, xv27 x _ h4 (by omega)]
      obtain ⟨y, e1, e2⟩ := c1 (some (L x ++ binN p.User)) k (by show (L x ++ binN p.User).length ≤ _; rw [List.length_append, xv2]; omega)
      exact ⟨y, e1, by rw [e2]; simp [L]⟩
  have hs1 := xv35 v hp
  have hs2 := xv35 v hw
  have hk := p.Keep.toNat_lt
  simp only [fn83, xv191, Option.bind_some]
  rw [xv27 none _ (by simp) (by simp [L, hl])]
  simp only [Option.bind_some]
  rw [xv168 _ _ _ _ _ _ hq, xv43 _ _ [_] (by simp [L, xv5, hl])]
  simp only [Option.bind_some]
  rw [show (2 : Int) = ((2 : Nat) : Int) from rfl, xv88 _ _ 2 (by omega) (by simp [L, xv5, hl]), xv106 (by omega)]
  simp only [Option.bind_some]
  generalize hX : (some (L (some (L (some (L (none : Option (List UInt8)) ++ (be 2 [77, 81, 84, 84].length ++ [77, 81, 84, 84]))) ++ u8 v :: [((((fl p.Clean 2 ||| fl p.HasWill 4) ||| (8 * p.WillQoS)) ||| fl p.WillRetain 32) ||| fl p.HasPass 64) ||| fl p.HasUser 128])) ++ be 2 p.Keep.toNat) : Option (List UInt8)) = X
  have lX : L X = binN [77, 81, 84, 84] ++ [u8 v, conF p] ++ be 2 p.Keep.toNat := by
    rw [← hX]
    simp [L, binN, conF]
  have nX : (L X).length ≤ 2000 := by rw [lX]; simp [binN, xv5]
  obtain ⟨y, s1, s2⟩ := xv8 v X p.Props hp (by omega)
  have n2 := lenA s2
  rw [s1]
  simp only [Option.bind_some]
  rw [xv27 y _ h1 (by omega)]
  simp only [Option.bind_some]
  have fin : ∀ (z : Option (List UInt8)), L z = L X ++ (secV v (L p.Props) ++ binN p.Client) ++ (if p.HasWill then secV v (L p.WillProps) ++ binN p.WillTopic ++ binN p.WillLoad else []) -> (L z).length ≤ 90000000 -> ∃ x, fn83_c0 z p (fun x28 => some x28) = some x ∧ L x = conB v p := fun z hz hn => by
    obtain ⟨y, e1, e2⟩ := c0 z (fun x => some x) hn
    refine ⟨y, e1, ?_⟩
    rw [e2, hz, lX]
    simp only [conB, List.append_assoc]
  have lz : L (some (L y ++ (be 2 p.Client.length ++ p.Client))) = L X ++ (secV v (L p.Props) ++ binN p.Client) := by
    show L y ++ binN p.Client = _
    rw [s2, List.append_assoc]
  cases hwl : p.HasWill with
  | false =>
    rw [if_neg (by simp)]
    refine fin _ (by rw [lz, hwl]; simp) (by rw [lz]; simp [xv2]; omega)
  | true =>
    rw [if_pos rfl]
    have n3 : (L (some (L y ++ (be 2 p.Client.length ++ p.Client)))).length ≤ 20000000 := by rw [lz]; simp [xv2]; omega
    obtain ⟨z, t1, t2⟩ := xv8 v (some (L y ++ (be 2 p.Client.length ++ p.Client))) p.WillProps hw (by omega)
    have n4 := lenA t2
    rw [t1]
    simp only [Option.bind_some]
    rw [xv27 z _ h2 (by omega)]
    simp only [Option.bind_some]
    have n5 : (L (some (L z ++ (be 2 p.WillTopic.length ++ p.WillTopic)))).length = (L z).length + (2 + p.WillTopic.length) := by
      show (L z ++ binN p.WillTopic).length = _
      rw [List.length_append, xv2]
    rw [xv27 _ _ h3 (by omega)]
    simp only [Option.bind_some]
    have lw : L (some (L (some (L z ++ (be 2 p.WillTopic.length ++ p.WillTopic))) ++ (be 2 p.WillLoad.length ++ p.WillLoad))) = L z ++ (binN p.WillTopic ++ binN p.WillLoad) := by
      show (L z ++ binN p.WillTopic) ++ binN p.WillLoad = _
      rw [List.append_assoc]
    refine fin _ (by rw [lw, t2, lz, hwl]; simp) (by rw [lw]; simp [xv2]; omega)
-- ---------- what stands behind ----------
def behN (v : Int) (p : fn105) : List UInt8 :=
  if p.Kind = 1 then conB v p
  else if p.Kind = 2 then [fl p.Present 1, p.Code] ++ secV v (L p.Props)
  else if p.Kind = 3 then binN p.Topic ++ (if p.QoS > 0 then be 2 p.Id.toNat else []) ++ secV v (L p.Props) ++ p.Load
  else if p.Kind = 4 ∨ p.Kind = 5 ∨ p.Kind = 6 ∨ p.Kind = 7 then be 2 p.Id.toNat ++ codeN v p
  else if p.Kind = 8 ∨ p.Kind = 10 then be 2 p.Id.toNat ++ secV v (L p.Props) ++ filN p.Kind (L p.Filters)
  else if p.Kind = 9 ∨ p.Kind = 11 then be 2 p.Id.toNat ++ secV v (L p.Props) ++ L p.Codes
  else if p.Kind = 14 ∨ p.Kind = 15 then codeN v p
  else []
theorem xv67 (x y : Option (List UInt8)) (h : (L x).length + (L y).length ≤ lim) : ∃ z, appO 1 x y = some z ∧ L z = L x ++ L y := by
  simp only [lim] at h
  cases x with
  | some x => exact ⟨_, xv6 (by simp [room]; simp [L] at h ⊢; omega) (by simp [room]; simp [L] at h ⊢; omega), rfl⟩
  | none =>
    cases hy : L y with
    | nil =>
      refine ⟨none, ?_, by simp [L]⟩
      cases y with
      | none => rfl
      | some y => simp only [L, Option.getD_some] at hy; subst hy; rfl
    | cons a l =>
      cases y with
      | none => simp [L] at hy
      | some y =>
        simp only [L, Option.getD_some] at hy; subst hy
        exact ⟨_, xv43 none a l (by simp [L, lim] at h ⊢; omega), by simp [L]⟩
theorem kinds {k : Int} (h : 1 ≤ k ∧ k ≤ 15) : k = 1 ∨ k = 2 ∨ k = 3 ∨ (k = 4 ∨ k = 5 ∨ k = 6 ∨ k = 7) ∨ (k = 8 ∨ k = 10) ∨ (k = 9 ∨ k = 11) ∨ (k = 14 ∨ k = 15) ∨ (k = 12 ∨ k = 13) := by omega
theorem xv234 (v : Int) (b : Option (List UInt8)) (q : fn54) (h : Txt (nP q)) (hk : 1 ≤ q.Kind ∧ q.Kind ≤ 15) (hb : (L b).length ≤ 1000) : ∃ x, fn50 v b q = some x ∧ L x = L b ++ behN v (nP q) := by
  have hl : lim = 140737488300000 := rfl
  have hp : Lay ((L q.Props).map pR) := h.pp
  have hs1 := xv35 v hp
  have ht : q.Topic.length ≤ 65535 := h.tp
  have hld : q.Load.length ≤ 1000000 := h.ld
  have hcs : (L q.Codes).length ≤ 1000000 := h.cs
  have e1 : (nP q).Kind = q.Kind := rfl
  have e2 : L (nP q).Props = (L q.Props).map pR := rfl
  have e3 : L (nP q).Codes = L q.Codes := rfl
  have e4 : L (nP q).Filters = (L q.Filters).map fR := rfl
  have t2 := xv42 b q.Id (by omega)
  have n2 : (L (some (L b ++ be 2 q.Id.toNat))).length = (L b).length + 2 := by simp [L, xv5]
  obtain ⟨cx, c1, c2⟩ := xv124 v (some (L b ++ be 2 q.Id.toNat)) q hp (by omega)
  obtain ⟨dx, d1, d2⟩ := xv124 v b q hp (by omega)
  obtain ⟨sx, s1, s2⟩ := xv13 v (some (L b ++ be 2 q.Id.toNat)) q.Props hp (by omega)
  have ns := lenA s2
  obtain ⟨fx, f1, f2⟩ := xv72 sx q (by have := h.fl; rw [e4, List.length_map] at this; exact this) (fun f hf => h.ft (fR f) (by rw [e4]; exact List.mem_map.2 ⟨f, hf, rfl⟩)) (by omega)
  obtain ⟨ax, a1, a2⟩ := xv67 sx q.Codes (by omega)
  have c1' : fn79 v (some (L b ++ be 2 q.Id.toNat)) (⟨q.Kind, q.Dup, q.Retain, q.QoS, q.Id, q.Clean, q.Keep, q.Client, q.HasWill, q.HasUser, q.HasPass, q.WillQoS, q.WillRetain, q.WillProps, q.WillTopic, q.WillLoad, q.User, q.Pass, q.Present, q.Code, q.Topic, q.Load, q.Filters, q.Codes, q.Props⟩ : fn54) = some cx := c1
  have d1' : fn79 v b (⟨q.Kind, q.Dup, q.Retain, q.QoS, q.Id, q.Clean, q.Keep, q.Client, q.HasWill, q.HasUser, q.HasPass, q.WillQoS, q.WillRetain, q.WillProps, q.WillTopic, q.WillLoad, q.User, q.Pass, q.Present, q.Code, q.Topic, q.Load, q.Filters, q.Codes, q.Props⟩ : fn54) = some dx := d1
  have f1' : fn42 sx (⟨q.Kind, q.Dup, q.Retain, q.QoS, q.Id, q.Clean, q.Keep, q.Client, q.HasWill, q.HasUser, q.HasPass, q.WillQoS, q.WillRetain, q.WillProps, q.WillTopic, q.WillLoad, q.User, q.Pass, q.Present, q.Code, q.Topic, q.Load, q.Filters, q.Codes, q.Props⟩ : fn54) = some fx := f1
  rcases kinds hk with k | k | k | k | k | k | k | k
  . obtain ⟨x, g1, g2⟩ := xv235 v b q h hb
    refine ⟨x, ?_, ?_⟩
    . simp only [fn50]
      rw [if_pos (by simp [k]), g1]; rfl
    . rw [g2]; simp only [behN, e1, k, if_true]
  . obtain ⟨x, g1, g2⟩ := xv13 v (some (L b ++ [fl q.Present 1, q.Code])) q.Props hp (by simp [L]; simp [L] at hb; omega)
    refine ⟨x, ?_, ?_⟩
    . simp only [fn50]
      rw [if_neg (by simp [k]), if_pos (by simp [k]), xv224]
      simp only [Option.bind_some, xv277, sec1]
      rw [xv30 b _ (by omega)]
      simp only [Option.bind_some]
      rw [xv30 _ _ (by simp [L, xv5]; simp [L] at hb; omega), be1c, be1c]
      simp only [Option.bind_some]
      rw [show (some (L (some (L b ++ [fl q.Present 1])) ++ [q.Code]) : Option (List UInt8)) = some (L b ++ [fl q.Present 1, q.Code]) by simp [L], g1]
      rfl
    . rw [g2]; simp only [behN, e1]; rw [if_neg (by omega), if_pos k]; simp [L, nP]
  . have hpub : ∃ x, fn41 v b q = some x ∧ L x = L b ++ (binN q.Topic ++ (if q.QoS > 0 then be 2 q.Id.toNat else []) ++ secV v ((L q.Props).map pR) ++ q.Load) := by
      simp only [fn41, fn41_c0, wTwo1, sec1]
      rw [xv22 b _ ht (by omega)]
      simp only [Option.bind_some]
      have nb : (L (some (L b ++ (be 2 q.Topic.length ++ q.Topic)))).length = (L b).length + (2 + q.Topic.length) := by
        show (L b ++ binN q.Topic).length = _
        rw [List.length_append, xv2]
      by_cases hq : q.QoS > 0
      . rw [if_pos (by simpa using hq), xv42 _ _ (by omega), if_pos hq]
        simp only [Option.bind_some]
        have nb2 : (L (some (L (some (L b ++ (be 2 q.Topic.length ++ q.Topic))) ++ be 2 q.Id.toNat))).length = (L b).length + (2 + q.Topic.length) + 2 := by
          show (L (some (L b ++ (be 2 q.Topic.length ++ q.Topic))) ++ be 2 q.Id.toNat).length = _
          rw [List.length_append, xv5, nb]
        obtain ⟨x, g1, g2⟩ := xv13 v (some (L (some (L b ++ (be 2 q.Topic.length ++ q.Topic))) ++ be 2 q.Id.toNat)) q.Props hp (by omega)
        have n3 := lenA g2
        rw [g1]
        simp only [Option.bind_some]
        obtain ⟨y, y1, y2⟩ := xv67 x (some q.Load) (by show _ + q.Load.length ≤ _; omega)
        exact ⟨y, by rw [y1]; rfl, by rw [y2, g2]; simp [L, binN]⟩
      . rw [if_neg (by simpa using hq), if_neg hq]
        obtain ⟨x, g1, g2⟩ := xv13 v (some (L b ++ (be 2 q.Topic.length ++ q.Topic))) q.Props hp (by omega)
        have n3 := lenA g2
        rw [g1]
        simp only [Option.bind_some]
        obtain ⟨y, y1, y2⟩ := xv67 x (some q.Load) (by show _ + q.Load.length ≤ _; omega)
        exact ⟨y, by rw [y1]; rfl, by rw [y2, g2]; simp [L, binN]⟩
    obtain ⟨x, g1, g2⟩ := hpub
    refine ⟨x, ?_, ?_⟩
    . simp only [fn50]
      rw [if_neg (by simp [k]), if_neg (by simp [k]), if_pos (by simp [k]), g1]; rfl
    . rw [g2]; simp only [behN, e1]; rw [if_neg (show ¬ q.Kind = 1 by omega), if_neg (show ¬ q.Kind = 2 by omega), if_pos k]; rfl
  . refine ⟨cx, ?_, ?_⟩
    . simp only [fn50, fn50_c0, code1, t2, c1', Option.bind_some]
      rcases k with k | k | k | k <;> simp [k]
    . rw [c2]; simp only [behN, e1]
      rw [if_neg (by omega), if_neg (by omega), if_neg (by omega), if_pos k]; simp [L, nP]
  . refine ⟨fx, ?_, ?_⟩
    . simp only [fn50, fn50_c0, fn50_c1, code1, sec1, fil1, t2, c1', s1, f1', Option.bind_some]
      rcases k with k | k <;> simp [k]
    . rw [f2, s2]; simp only [behN, e1]
      rw [if_neg (by omega), if_neg (by omega), if_neg (by omega), if_neg (by omega), if_pos k]; simp [L, nP]
  . refine ⟨ax, ?_, ?_⟩
    . simp only [fn50, fn50_c0, fn50_c1, fn50_c2, code1, sec1, fil1, t2, c1', s1, f1', a1, Option.bind_some]
      rcases k with k | k <;> simp [k]
    . rw [a2, s2]; simp only [behN, e1]
      rw [if_neg (by omega), if_neg (by omega), if_neg (by omega), if_neg (by omega), if_neg (by omega), if_pos k]; simp [L, nP]
  . refine ⟨dx, ?_, ?_⟩
    . simp only [fn50, fn50_c0, fn50_c1, fn50_c2, fn50_c3, code1, sec1, fil1, t2, c1', d1', s1, f1', a1, Option.bind_some]
      rcases k with k | k <;> simp [k]
    . rw [d2]; simp only [behN, e1]
      rw [if_neg (by omega), if_neg (by omega), if_neg (by omega), if_neg (by omega), if_neg (by omega), if_neg (by omega), if_pos k]
  . refine ⟨b, ?_, ?_⟩
    . simp only [fn50, fn50_c0, fn50_c1, fn50_c2, fn50_c3, code1, sec1, fil1, t2, c1', d1', s1, f1', a1, Option.bind_some]
      rcases k with k | k <;> simp [k]
    . simp only [behN, e1]
      rw [if_neg (by omega), if_neg (by omega), if_neg (by omega), if_neg (by omega), if_neg (by omega), if_neg (by omega), if_neg (by omega)]; simp
end Go.Rv
namespace Go.Rv
theorem xv246 (v : Int) (p : fn105) (h : Txt p) (hk : 1 ≤ p.Kind ∧ p.Kind ≤ 15) (hwq : p.Kind = 1 -> ¬ p.WillQoS > 2) : ∃ x, fn102 v p = some x ∧ L x = behN v p := by
  have hl : lim = 140737488300000 := rfl
  have hp := h.pp
  have hs1 := xv35 v hp
  have ht := h.tp
  have hld := h.ld
  have hcs := h.cs
  have hid := p.Id.toNat_lt
  have n0 : L (none : Option (List UInt8)) = [] := rfl
  have t2 : ∀ b : Option (List UInt8), (L b).length ≤ 1000000 -> fn159 b (u64 (p.Id.toNat : Int)) 2 = some (some (L b ++ be 2 p.Id.toNat)) := fun b hb => by
    rw [show (2 : Int) = ((2 : Nat) : Int) from rfl, xv88 b _ 2 (by omega) (by omega), xv106 (by omega)]
  have t2n := t2 none (by simp [n0])
  rw [n0, List.nil_append] at t2n
  have n2 : (L (some (be 2 p.Id.toNat))).length = 2 := by simp [L, xv5]
  obtain ⟨cx, c1, c2⟩ := xv90 v (some (be 2 p.Id.toNat)) p hp (by omega)
  obtain ⟨dx, d1, d2⟩ := xv90 v none p hp (by simp [n0])
  obtain ⟨sx, s1, s2⟩ := xv8 v (some (be 2 p.Id.toNat)) p.Props hp (by omega)
  have ns := lenA s2
  obtain ⟨fx, f1, f2⟩ := xv62 sx p h.fl h.ft (by omega)
  obtain ⟨ax, a1, a2⟩ := xv67 sx p.Codes (by omega)
  have c1' : fn152 v (some (be 2 p.Id.toNat)) (⟨p.Kind, p.Dup, p.Retain, p.QoS, p.Id, p.Clean, p.Keep, p.Client, p.HasWill, p.HasUser, p.HasPass, p.WillQoS, p.WillRetain, p.WillProps, p.WillTopic, p.WillLoad, p.User, p.Pass, p.Present, p.Code, p.Topic, p.Load, p.Filters, p.Codes, p.Props⟩ : fn105) = some cx := c1
  have d1' : fn152 v none (⟨p.Kind, p.Dup, p.Retain, p.QoS, p.Id, p.Clean, p.Keep, p.Client, p.HasWill, p.HasUser, p.HasPass, p.WillQoS, p.WillRetain, p.WillProps, p.WillTopic, p.WillLoad, p.User, p.Pass, p.Present, p.Code, p.Topic, p.Load, p.Filters, p.Codes, p.Props⟩ : fn105) = some dx := d1
  rcases kinds hk with k | k | k | k | k | k | k | k
  . obtain ⟨x, g1, g2⟩ := xv247 v p h (hwq k)
    refine ⟨x, ?_, ?_⟩
    . simp only [fn102]
      rw [if_pos (by simp [k]), g1]; rfl
    . rw [g2]; simp only [behN]; rw [if_pos k]
  . obtain ⟨x, g1, g2⟩ := xv8 v (some [fl p.Present 1, p.Code]) p.Props hp (by simp [L])
    refine ⟨x, ?_, ?_⟩
    . simp only [fn102, xv191, rsec1]
      rw [if_neg (by simp [k]), if_pos (by simp [k])]
      simp only [Option.bind_some]
      rw [show u8 (if p.Present = true then (1 : Int) else 0) = fl p.Present 1 by cases p.Present <;> decide +kernel, g1]
      rfl
    . rw [g2]; simp only [behN]; rw [if_neg (by omega), if_pos k]; rfl
  . have hpub : ∃ x, fn102 v p = some x ∧ L x = binN p.Topic ++ (if p.QoS > 0 then be 2 p.Id.toNat else []) ++ secV v (L p.Props) ++ p.Load := by
      simp only [fn102, fn102_c0, rNum1, rBin1, rsec1]
      rw [if_neg (by simp [k]), if_neg (by simp [k]), if_pos (by simp [k])]
      rw [xv27 none _ ht (by rw [n0]; simp; omega)]
      simp only [Option.bind_some]
      have nb : (L (some (L (none : Option (List UInt8)) ++ (be 2 p.Topic.length ++ p.Topic)))).length = 2 + p.Topic.length := by
        show (binN p.Topic).length = _
        rw [xv2]
      by_cases hq : p.QoS > 0
      . rw [if_pos (by simpa using hq), t2 _ (by omega), if_pos hq]
        simp only [Option.bind_some]
        have nb2 : (L (some (L (some (L (none : Option (List UInt8)) ++ (be 2 p.Topic.length ++ p.Topic))) ++ be 2 p.Id.toNat))).length = (2 + p.Topic.length) + 2 := by
          show (L (some (L (none : Option (List UInt8)) ++ (be 2 p.Topic.length ++ p.Topic))) ++ be 2 p.Id.toNat).length = _
          rw [List.length_append, xv5, nb]
        obtain ⟨x, g1, g2⟩ := xv8 v (some (L (some (L (none : Option (List UInt8)) ++ (be 2 p.Topic.length ++ p.Topic))) ++ be 2 p.Id.toNat)) p.Props hp (by omega)
        have n3 := lenA g2
        rw [g1]
        simp only [Option.bind_some]
        obtain ⟨y, y1, y2⟩ := xv67 x (some p.Load) (by show _ + p.Load.length ≤ _; omega)
        exact ⟨y, by rw [y1]; rfl, by rw [y2, g2]; simp [L, binN]⟩
      . rw [if_neg (by simpa using hq), if_neg hq]
        obtain ⟨x, g1, g2⟩ := xv8 v (some (L (none : Option (List UInt8)) ++ (be 2 p.Topic.length ++ p.Topic))) p.Props hp (by omega)
        have n3 := lenA g2
        rw [g1]
        simp only [Option.bind_some]
        obtain ⟨y, y1, y2⟩ := xv67 x (some p.Load) (by show _ + p.Load.length ≤ _; omega)
        exact ⟨y, by rw [y1]; rfl, by rw [y2, g2]; simp [L, binN]⟩
    obtain ⟨x, g1, g2⟩ := hpub
    refine ⟨x, g1, ?_⟩
    rw [g2]; simp only [behN]; rw [if_neg (show ¬ p.Kind = 1 by omega), if_neg (show ¬ p.Kind = 2 by omega), if_pos k]
  . refine ⟨cx, ?_, ?_⟩
    . simp only [fn102, fn102_c1, rNum1, t2n, c1', Option.bind_some]
      rcases k with k | k | k | k <;> simp [k]
    . rw [c2]; simp only [behN]
      rw [if_neg (by omega), if_neg (by omega), if_neg (by omega), if_pos k]; simp [L]
  . refine ⟨fx, ?_, ?_⟩
    . simp only [fn102, fn102_c1, fn102_c2, rNum1, rsec1, t2n, c1', s1, f1, Option.bind_some]
      rcases k with k | k <;> simp [k]
    . rw [f2, s2]; simp only [behN]
      rw [if_neg (by omega), if_neg (by omega), if_neg (by omega), if_neg (by omega), if_pos k]; simp [L]
  . refine ⟨ax, ?_, ?_⟩
    . simp only [fn102, fn102_c1, fn102_c2, fn102_c4, rNum1, rsec1, t2n, c1', s1, f1, a1, Option.bind_some]
      rcases k with k | k <;> simp [k]
    . rw [a2, s2]; simp only [behN]
      rw [if_neg (by omega), if_neg (by omega), if_neg (by omega), if_neg (by omega), if_neg (by omega), if_pos k]; simp [L]
  . refine ⟨dx, ?_, ?_⟩
    . simp only [fn102, fn102_c1, fn102_c2, fn102_c4, fn102_c5, rNum1, rsec1, t2n, c1', d1', s1, f1, a1, Option.bind_some]
      rcases k with k | k <;> simp [k]
    . rw [d2]; simp only [behN]
      rw [if_neg (by omega), if_neg (by omega), if_neg (by omega), if_neg (by omega), if_neg (by omega), if_neg (by omega), if_pos k]; simp [L]
  . refine ⟨none, ?_, ?_⟩
    . simp only [fn102, fn102_c1, fn102_c2, fn102_c4, fn102_c5, rNum1, rsec1, t2n, c1', d1', s1, f1, a1, Option.bind_some]
      rcases k with k | k <;> simp [k]
    . simp only [behN]
      rw [if_neg (by omega), if_neg (by omega), if_neg (by omega), if_neg (by omega), if_neg (by omega), if_neg (by omega), if_neg (by omega)]; simp [L]
-- ---------- how long ----------
theorem xv154 (v : Int) {l : List fn153} (h : Lay l) : ((secV v l).length : Int) = sectI v l := by
  simp only [secV, sectI, sizeI, h.ok, if_true]
  split <;> rfl
theorem xv166 (v : Int) (p : fn105) (h : Lay (L p.Props)) : ((codeN v p).length : Int) = codeI v p := by
  simp only [codeN, codeI, sizeI, h.ok, if_true, List.length_eq_zero_iff]
  split
  . rfl
  . split
    . rfl
    . simp; omega
theorem xv128 (k : Int) : ∀ l : List fn104, ((filN k l).length : Int) = xv16 k l
  | [] => rfl
  | f :: l => by
    have ih := xv128 k l
    have e1 : filN k (f :: l) = (binN f.Text ++ if k = 8 then [f.Opt] else []) ++ filN k l := rfl
    have e2 : xv16 k (f :: l) = (binI f.Text + if k = 8 then 1 else 0) + xv16 k l := by simp [xv16]
    have hb := xv2 f.Text
    rw [e1, e2, ← ih, List.length_append, List.length_append, hb]
    simp only [binI]
    split <;> simp <;> omega
theorem xv125 (v : Int) (p : fn105) (h : Txt p) : ((behN v p).length : Int) = restI v p := by
  have s1 := xv154 v h.pp
  have s2 := xv154 v h.wp
  have s3 := xv166 v p h.pp
  have s4 := xv128 p.Kind (L p.Filters)
  have b1 := xv2 p.Client; have b2 := xv2 p.WillTopic; have b3 := xv2 p.WillLoad; have b4 := xv2 p.User; have b5 := xv2 p.Pass; have b6 := xv2 p.Topic
  have b7 : (binN [77, 81, 84, 84]).length = 6 := by rw [xv2]; rfl
  simp only [behN, restI]
  split
  . simp only [conB, List.length_append, b7, xv5, b1, binI]
    cases p.HasWill <;> cases p.HasUser <;> cases p.HasPass <;> simp [b1, b2, b3, b4, b5] <;> omega
  split
  . simp only [List.length_append]; simp; omega
  split
  . simp only [List.length_append, b6, binI]
    split <;> simp [xv5] <;> omega
  split
  . simp only [List.length_append, xv5]; omega
  split
  . simp only [List.length_append, xv5]; omega
  split
  . simp only [List.length_append, xv5]; omega
  split
  . exact s3
  . rfl
-- ---------- flags ----------
def flagN (p : fn105) : UInt8 := if p.Kind = 3 then (fl p.Retain 1 ||| (2 * p.QoS)) ||| fl p.Dup 8 else if p.Kind = 6 ∨ p.Kind = 8 ∨ p.Kind = 10 then 2 else 0
theorem xv131 (q : fn54) : fn64 q = some (flagN (nP q)) := by
  have e : flagN (nP q) = if q.Kind = 3 then (fl q.Retain 1 ||| (2 * q.QoS)) ||| fl q.Dup 8 else if q.Kind = 6 ∨ q.Kind = 8 ∨ q.Kind = 10 then 2 else 0 := rfl
  rw [e]
  simp only [fn64, xv224, Option.bind_some, decide_eq_true_eq]
  by_cases h3 : q.Kind = 3
  . simp [h3]
  . by_cases h6 : q.Kind = 6
    . simp [h6]
    . by_cases h8 : q.Kind = 8
      . simp [h8]
      . by_cases h10 : q.Kind = 10
        . simp [h10]
        . simp [h3, h6, h8, h10]
theorem xv184 {q : UInt8} (hq : ¬ q > 2) : q = 0 ∨ q = 1 ∨ q = 2 := by
  have h : q.toNat ≤ 2 := by
    have : ¬ (2 : UInt8).toNat < q.toNat := hq
    have e2 : (2 : UInt8).toNat = 2 := rfl
    omega
  have h3 : q.toNat = 0 ∨ q.toNat = 1 ∨ q.toNat = 2 := by omega
  rcases h3 with h3 | h3 | h3
  . exact .inl (UInt8.toNat_inj.1 h3)
  . exact .inr (.inl (UInt8.toNat_inj.1 h3))
  . exact .inr (.inr (UInt8.toNat_inj.1 h3))
theorem f3_eq (a d : Bool) (q : UInt8) (hq : ¬ q > 2) : w64 ((w64 ((if a then (1 : Int) else 0) + (w64 (2 * (w64 (q.toNat : Int)))))) + (if d then (8 : Int) else 0)) = (((fl a 1 ||| (2 * q)) ||| fl d 8).toNat : Int) := by
  rcases xv184 hq with rfl | rfl | rfl <;> cases a <;> cases d <;> decide +kernel
theorem xv95 (p : fn105) (hq : p.Kind = 3 -> ¬ p.QoS > 2) : fn131 p = some ((flagN p).toNat : Int) := by
  simp only [fn131, xv191, Option.bind_some, decide_eq_true_eq, flagN]
  by_cases h3 : p.Kind = 3
  . rw [if_pos h3, if_pos h3, f3_eq _ _ _ (hq h3)]
  . rw [if_neg h3, if_neg h3]
    by_cases h6 : p.Kind = 6
    . simp [h6]
    . by_cases h8 : p.Kind = 8
      . simp [h8]
      . by_cases h10 : p.Kind = 10
        . simp [h10]
        . simp [h6, h8, h10]
theorem xv208 (p : fn105) (hk : 1 ≤ p.Kind ∧ p.Kind ≤ 15) (hq : p.Kind = 3 -> ¬ p.QoS > 2) : u8 (w64 ((w64 (16 * p.Kind)) + ((flagN p).toNat : Int))) = (yv729 (u8 p.Kind) ((4 : UInt64).toNat : Int)) ||| flagN p := by
  by_cases h3 : p.Kind = 3
  . simp only [flagN, h3, if_true]
    rcases xv184 (hq h3) with h | h | h <;> rw [h] <;> cases p.Retain <;> cases p.Dup <;> decide +kernel
  . have hf : flagN p = 2 ∨ flagN p = 0 := by
      simp only [flagN, if_neg h3]
      split <;> simp
    have hk2 : p.Kind = 1 ∨ p.Kind = 2 ∨ p.Kind = 4 ∨ p.Kind = 5 ∨ p.Kind = 6 ∨ p.Kind = 7 ∨ p.Kind = 8 ∨ p.Kind = 9 ∨ p.Kind = 10 ∨ p.Kind = 11 ∨ p.Kind = 12 ∨ p.Kind = 13 ∨ p.Kind = 14 ∨ p.Kind = 15 := by omega
    rcases hk2 with h | h | h | h | h | h | h | h | h | h | h | h | h | h <;> rw [h] <;> rcases hf with f | f <;> rw [f] <;> decide +kernel
end Go.Rv
namespace Go.Rv
theorem xv216 {k : Int} : ∀ (l : List fn153) (p : Option fn153), chkL k p l = true -> l.all okB = true
  | [], _, _ => rfl
  | b :: l, p, h => by
    simp only [chkL, chk1, xv57, Bool.and_eq_true] at h
    rw [List.all_cons, xv216 l _ h.2, Bool.and_true]
    exact h.1.1.1.1
structure Facts (p : fn105) : Prop where
  tx : Txt p
  k : 1 ≤ p.Kind ∧ p.Kind ≤ 15
  wq : p.Kind = 1 -> ¬ p.WillQoS > 2
  qs : p.Kind = 3 -> ¬ p.QoS > 2
theorem xv48 {v : Int} {q : fn54} (h : MidQ q) (hr : xv25 v (nP q) = true) : Facts (nP q) := by
  have h1 := h.wp; have h2 := h.pp; have h3 := h.fl; have h4 := h.cd
  have m := h.toMidP
  have l1 := h.cl; have l2 := h.tp; have l3 := h.wo; have l4 := h.us; have l5 := h.ld
  simp only [xv25, Bool.and_eq_true] at hr
  obtain ⟨⟨⟨⟨⟨⟨a1, a2⟩, a3⟩, _⟩, a5⟩, a6⟩, a7⟩ := hr
  simp only [verB, Bool.and_eq_true, decide_eq_true_eq] at a1
  have a2 := of_decide_eq_true a2
  simp only [xv29, Bool.and_eq_true, decide_eq_true_eq] at a3
  simp only [xv4, Bool.and_eq_true] at a5 a6
  have e1 : L (nP q).Props = (L q.Props).map pR := rfl
  have e2 : L (nP q).WillProps = (L q.WillProps).map pR := rfl
  have e3 : L (nP q).Filters = (L q.Filters).map fR := rfl
  have e4 : L (nP q).Codes = L q.Codes := rfl
  refine ⟨⟨?_, ?_, a3.1.2, ?_, a3.2, ?_, ?_, ?_, ?_, ?_, ⟨?_, ?_, xv216 _ _ a5.1.2⟩, ⟨?_, ?_, xv216 _ _ a6.1.2⟩⟩, ⟨a1.1.1.2, a1.1.2⟩, ?_, ?_⟩
  . show q.Client.length ≤ 65535; omega
  . show q.WillTopic.length ≤ 65535; omega
  . show q.User.length ≤ 65535; omega
  . show q.Topic.length ≤ 65535; omega
  . show q.Load.length ≤ 1000000; omega
  . rw [e4]; omega
  . rw [e3, List.length_map]; omega
  . intro f hf
    rw [e3] at hf
    obtain ⟨g, hg, rfl⟩ := List.mem_map.1 hf
    exact m.ft g hg
  . rw [e1, List.length_map]; omega
  . rw [e1]; exact m.ptm
  . rw [e2, List.length_map]; omega
  . rw [e2]; exact m.wtm
  . intro k
    cases hw : (nP q).HasWill with
    | true =>
      simp only [ownN, conN, k, if_true, hw, Bool.true_and, Bool.and_eq_true, Bool.not_eq_true', Bool.or_eq_false_iff, decide_eq_false_iff_not] at a7
      exact a7.1.1
    | false =>
      have := congrArg fn105.WillQoS a2
      simp only [bareN, k, if_true, hw] at this
      rw [if_neg (by decide)] at this
      rw [this]; decide
  . intro k
    have a7 : pubN v (nP q) = true := by
      simp only [ownN, k] at a7
      simpa using a7
    simp only [pubN, Bool.and_eq_true, Bool.not_eq_true', decide_eq_false_iff_not] at a7
    exact a7.1.1.1
def packN (v : Int) (p : fn105) : List UInt8 := ((yv729 (u8 p.Kind) ((4 : UInt64).toNat : Int)) ||| flagN p) :: (vb (behN v p).length ++ behN v p)
theorem xv190 (v : Int) (q : fn54) (h : MidQ q) (f : Facts (nP q)) : (behN v (nP q)).length ≤ 268435455 := by
  have := (xv61 v q h).2.1
  have := xv125 v (nP q) f.tx
  omega
theorem xv236 (v : Int) (q : fn54) (h : MidQ q) (hr : xv25 v (nP q) = true) : ∃ x, fn51 v q = some (x, 0) ∧ L x = packN v (nP q) := by
  have f := xv48 h hr
  obtain ⟨r1, r2, r3⟩ := xv61 v q h
  have hi := xv125 v (nP q) f.tx
  have hle := xv190 v q h f
  have hu : (u32 ((behN v (nP q)).length : Int)).toNat = (behN v (nP q)).length := by rw [u32_toNat']; omega
  have hv := xv44 4 (behN v (nP q)).length (by have : (128 : Nat) ^ 4 = 268435456 := (by decide); omega)
  simp only [fn51]
  rw [xv76 v q h, hr]
  simp only [Option.bind_some]
  rw [if_neg (by simp), show fn64 (⟨q.Kind, q.Dup, q.Retain, q.QoS, q.Id, q.Clean, q.Keep, q.Client, q.HasWill, q.HasUser, q.HasPass, q.WillQoS, q.WillRetain, q.WillProps, q.WillTopic, q.WillLoad, q.User, q.Pass, q.Present, q.Code, q.Topic, q.Load, q.Filters, q.Codes, q.Props⟩ : fn54) = some (flagN (nP q)) from xv131 q]
  simp only [Option.bind_some]
  rw [r1]
  simp only [Option.bind_some]
  rw [← hi, xv107 _ _ (by simp [L]), hu, if_neg (by omega)]
  simp only [Option.bind_some]
  obtain ⟨x, g1, g2⟩ := xv234 v (some (L (some [(yv729 (u8 q.Kind) ((4 : UInt64).toNat : Int)) ||| flagN (nP q)]) ++ vb (behN v (nP q)).length)) q f.tx f.k (by simp [L]; omega)
  rw [show fn50 v (some (L (some [(yv729 (u8 q.Kind) ((4 : UInt64).toNat : Int)) ||| flagN (nP q)]) ++ vb (behN v (nP q)).length)) (⟨q.Kind, q.Dup, q.Retain, q.QoS, q.Id, q.Clean, q.Keep, q.Client, q.HasWill, q.HasUser, q.HasPass, q.WillQoS, q.WillRetain, q.WillProps, q.WillTopic, q.WillLoad, q.User, q.Pass, q.Present, q.Code, q.Topic, q.Load, q.Filters, q.Codes, q.Props⟩ : fn54) = some x from g1]
  refine ⟨x, rfl, ?_⟩
  rw [g2]
  simp only [packN, L, Option.getD_some, List.cons_append, List.nil_append, List.append_assoc]
  rfl
theorem xv265 (v : Int) (q : fn54) (h : MidQ q) (hr : xv25 v (nP q) = false) : fn51 v q = some (none, 1) := by
  simp only [fn51]
  rw [xv76 v q h, hr]
  rfl
theorem size_eq (v : Int) (q : fn54) (h : MidQ q) : fn81 v q = some (if xv25 v (nP q) then ((packN v (nP q)).length : Int) else 0) := by
  simp only [fn81]
  rw [xv76 v q h]
  simp only [Option.bind_some]
  cases hr : xv25 v (nP q) with
  | false => rfl
  | true =>
    have f := xv48 h hr
    obtain ⟨r1, r2, r3⟩ := xv61 v q h
    have hi := xv125 v (nP q) f.tx
    have hle := xv190 v q h f
    have hu : (u32 ((behN v (nP q)).length : Int)).toNat = (behN v (nP q)).length := by rw [u32_toNat']; omega
    have hv := xv44 4 (behN v (nP q)).length (by have : (128 : Nat) ^ 4 = 268435456 := (by decide); omega)
    rw [if_neg (by simp), r1]
    simp only [Option.bind_some, fn65]
    rw [← hi, xv107 _ _ (by simp [L]), hu, if_neg (by omega)]
    simp only [Option.bind_some]
    have n0 : L (some (L (none : Option (List UInt8)) ++ vb (behN v (nP q)).length)) = vb (behN v (nP q)).length := by simp [L]
    rw [n0, xv0 (x := 1 + ((vb (behN v (nP q)).length).length : Int)) (by omega) (by omega), xv0 (by omega) (by omega), if_pos trivial]
    simp only [packN, List.length_cons, List.length_append]
    congr 1
    omega
theorem xv248 (v : Int) (p : fn105) (h : MidR p) (hr : xv25 v (nR p) = true) : ∃ x, fn103 v p = some (x, 0) ∧ L x = packN v (nR p) := by
  have f0 := xv48 h.toQ (v := v) (by rw [xv36]; exact hr)
  rw [xv36] at f0
  have hle : (behN v (nR p)).length ≤ 268435455 := by
    have := xv190 v (toP p) h.toQ (by rw [xv36]; exact f0)
    rw [xv36] at this; exact this
  have tx : Txt p := ⟨f0.tx.cl, f0.tx.wt, f0.tx.wl, f0.tx.us, f0.tx.ps, f0.tx.tp, f0.tx.ld, f0.tx.cs, f0.tx.fl, f0.tx.ft, f0.tx.pp, f0.tx.wp⟩
  have eb : behN v (nR p) = behN v p := rfl
  rw [eb] at hle
  obtain ⟨x, g1, g2⟩ := xv246 v p tx f0.k f0.wq
  have hu : (u32 ((behN v p).length : Int)).toNat = (behN v p).length := by rw [u32_toNat']; omega
  have hv := xv44 4 (behN v p).length (by have : (128 : Nat) ^ 4 = 268435456 := (by decide); omega)
  simp only [fn103]
  rw [xv63 v p h, hr]
  simp only [Option.bind_some]
  rw [if_neg (by simp), g1]
  simp only [Option.bind_some]
  rw [show fn131 (⟨p.Kind, p.Dup, p.Retain, p.QoS, p.Id, p.Clean, p.Keep, p.Client, p.HasWill, p.HasUser, p.HasPass, p.WillQoS, p.WillRetain, p.WillProps, p.WillTopic, p.WillLoad, p.User, p.Pass, p.Present, p.Code, p.Topic, p.Load, p.Filters, p.Codes, p.Props⟩ : fn105) = some ((flagN p).toNat : Int) from xv95 p f0.qs]
  simp only [Option.bind_some]
  rw [xv208 p f0.k f0.qs, g2, xv143 _ _ (by simp [L]), hu, if_neg (by omega)]
  simp only [Option.bind_some]
  have lh : lim = 140737488300000 := rfl
  obtain ⟨y, y1, y2⟩ := xv67 (some (L (some [(yv729 (u8 p.Kind) ((4 : UInt64).toNat : Int)) ||| flagN p]) ++ vb (behN v p).length)) x (by rw [g2, lh]; simp [L]; omega)
  rw [y1]
  refine ⟨y, rfl, ?_⟩
  rw [y2, g2]
  simp only [packN, L, Option.getD_some, List.cons_append, List.nil_append, List.append_assoc]
  rfl
theorem xv249 (v : Int) (p : fn105) (h : MidR p) (hr : xv25 v (nR p) = false) : fn103 v p = some (none, 1) := by
  simp only [fn103]
  rw [xv63 v p h, hr]
  rfl
-- ---------- the laws ----------
def tD : fn54 := ⟨3, false, false, 1, 7, false, 0, [], false, false, false, 0, false, none, [], [], [], [], false, 0, [97], [120], none, none, none⟩
theorem tD_q : MidQ tD := by
  refine ⟨⟨⟨?_, ?_, ?_, ?_⟩, ?_, ?_, ?_, ?_, ?_, ?_, ?_⟩, ?_, ?_, ?_⟩ <;> simp [tD, L]
theorem tD_r : xv25 4 (nP tD) = true := by kernel_rfl
theorem tD_b : behN 4 (nP tD) = [0, 1, 97, 0, 7, 120] := by kernel_rfl
theorem tD_p : packN 4 (nP tD) = [50, 6, 0, 1, 97, 0, 7, 120] := by
  simp only [packN, tD_b]
  rw [vb_lt (by decide)]
  kernel_rfl
theorem xv132 : fn151 = some true := by
  obtain ⟨x, g1, g2⟩ := xv236 4 tD tD_q tD_r
  rw [tD_p] at g2
  simp only [fn151]
  rw [show fn51 4 (⟨3, false, false, (1 : UInt8), (7 : UInt16), false, (0 : UInt16), [], false, false, false, (0 : UInt8), false, none, [], [], [], [], false, (0 : UInt8), [97], [120], none, none, none⟩ : fn54) = some (x, 0) from g1]
  simp only [Option.bind_some]
  rw [if_pos (by decide), if_pos (by simp [g2])]
  rw [show fn81 4 (⟨3, false, false, (1 : UInt8), (7 : UInt16), false, (0 : UInt16), [], false, false, false, (0 : UInt8), false, none, [], [], [], [], false, (0 : UInt8), [97], [120], none, none, none⟩ : fn54) = some 8 from (size_eq 4 tD tD_q).trans (by rw [tD_r, tD_p]; rfl)]
  simp only [Option.bind_some]
  rw [if_pos (by decide)]
  rw [show fn64 (⟨3, false, false, (1 : UInt8), (7 : UInt16), false, (0 : UInt16), [], false, false, false, (0 : UInt8), false, none, [], [], [], [], false, (0 : UInt8), [97], [120], none, none, none⟩ : fn54) = some 2 from by kernel_rfl]
  simp only [Option.bind_some]
  rw [if_pos (by decide)]
  rw [show fn73 4 (⟨3, false, false, (1 : UInt8), (7 : UInt16), false, (0 : UInt16), [], false, false, false, (0 : UInt8), false, none, [], [], [], [], false, (0 : UInt8), [97], [120], none, none, none⟩ : fn54) = some 6 from (xv61 4 tD tD_q).1.trans (by kernel_rfl)]
  rfl
theorem xv228 (p : fn105) (h : FewR p) : ∃ r, fn147 (⟨(toP p).Kind, (toP p).Dup, (toP p).Retain, (toP p).QoS, (toP p).Id, (toP p).Clean, (toP p).Keep, (toP p).Client, (toP p).HasWill, (toP p).HasUser, (toP p).HasPass, (toP p).WillQoS, (toP p).WillRetain, (toP p).WillProps, (toP p).WillTopic, (toP p).WillLoad, (toP p).User, (toP p).Pass, (toP p).Present, (toP p).Code, (toP p).Topic, (toP p).Load, (toP p).Filters, (toP p).Codes, (toP p).Props⟩ : fn54) = some r ∧ fn140 (⟨r.Kind, r.Dup, r.Retain, r.QoS, r.Id, r.Clean, r.Keep, r.Client, r.HasWill, r.HasUser, r.HasPass, r.WillQoS, r.WillRetain, r.WillProps, r.WillTopic, r.WillLoad, r.User, r.Pass, r.Present, r.Code, r.Topic, r.Load, r.Filters, r.Codes, r.Props⟩ : fn105) p = some true := by
  have hm := h.mid
  have hq := hm.toQ
  obtain ⟨r, h1, h2⟩ := xv237 (toP p) hq.wp hq.pp hq.fl hq.cd
  rw [xv36] at h2
  have e1 := congrArg (fun x => L x.WillProps) h2
  have e2 := congrArg (fun x => L x.Props) h2
  have e3 := congrArg (fun x => L x.Filters) h2
  have e1 : L r.WillProps = L p.WillProps := e1
  have e2 : L r.Props = L p.Props := e2
  have e3 : L r.Filters = L p.Filters := e3
  have w := hm.wp; have w2 := hm.pp; have w3 := hm.fl
  exact ⟨r, h1, (xv148 r p (by rw [e1]; exact w) (by rw [e2]; exact w2) (by rw [e3]; exact w3)).trans (by rw [h2]; simp)⟩
theorem xv114 (v : Int) (p : fn105) (hc : Can p) : fn22 v p = some true := by
  obtain ⟨b, hb, hf⟩ := xv266 p hc
  simp only [fn22]
  rw [show fn155 (⟨p.Kind, p.Dup, p.Retain, p.QoS, p.Id, p.Clean, p.Keep, p.Client, p.HasWill, p.HasUser, p.HasPass, p.WillQoS, p.WillRetain, p.WillProps, p.WillTopic, p.WillLoad, p.User, p.Pass, p.Present, p.Code, p.Topic, p.Load, p.Filters, p.Codes, p.Props⟩ : fn105) = some b from hb]
  simp only [Option.bind_some, xv132]
  cases b with
  | false => rfl
  | true =>
    have h := hf rfl
    have hm := h.mid
    have hq := hm.toQ
    rw [if_neg (by simp)]
    rw [show l07_To (⟨p.Kind, p.Dup, p.Retain, p.QoS, p.Id, p.Clean, p.Keep, p.Client, p.HasWill, p.HasUser, p.HasPass, p.WillQoS, p.WillRetain, p.WillProps, p.WillTopic, p.WillLoad, p.User, p.Pass, p.Present, p.Code, p.Topic, p.Load, p.Filters, p.Codes, p.Props⟩ : fn105) = some (toP p) from toEq p h]
    simp only [Option.bind_some, if_true]
    obtain ⟨r, t1, t2⟩ := xv228 p h
    have sz := size_eq v (toP p) hq
    rw [xv36] at sz
    cases hr : xv25 v (nR p) with
    | false =>
      have g := xv265 v (toP p) hq (by rw [xv36]; exact hr)
      rw [show fn51 v (⟨(toP p).Kind, (toP p).Dup, (toP p).Retain, (toP p).QoS, (toP p).Id, (toP p).Clean, (toP p).Keep, (toP p).Client, (toP p).HasWill, (toP p).HasUser, (toP p).HasPass, (toP p).WillQoS, (toP p).WillRetain, (toP p).WillProps, (toP p).WillTopic, (toP p).WillLoad, (toP p).User, (toP p).Pass, (toP p).Present, (toP p).Code, (toP p).Topic, (toP p).Load, (toP p).Filters, (toP p).Codes, (toP p).Props⟩ : fn54) = some (none, 1) from g, xv249 v p hm hr]
      simp only [Option.bind_some]
      rw [hr] at sz
      rw [if_pos (by decide), if_pos (by simp), show fn81 v (⟨(toP p).Kind, (toP p).Dup, (toP p).Retain, (toP p).QoS, (toP p).Id, (toP p).Clean, (toP p).Keep, (toP p).Client, (toP p).HasWill, (toP p).HasUser, (toP p).HasPass, (toP p).WillQoS, (toP p).WillRetain, (toP p).WillProps, (toP p).WillTopic, (toP p).WillLoad, (toP p).User, (toP p).Pass, (toP p).Present, (toP p).Code, (toP p).Topic, (toP p).Load, (toP p).Filters, (toP p).Codes, (toP p).Props⟩ : fn54) = some 0 from sz]
      simp only [Option.bind_some]
      rw [if_pos (by simp [L]), if_pos (by decide), t1]
      simp only [Option.bind_some]
      rw [t2]; rfl
    | true =>
      obtain ⟨x, g1, g2⟩ := xv236 v (toP p) hq (by rw [xv36]; exact hr)
      rw [xv36] at g2
      obtain ⟨y, g3, g4⟩ := xv248 v p hm hr
      have f0 := xv48 hq (v := v) (by rw [xv36]; exact hr)
      rw [xv36] at f0
      rw [show fn51 v (⟨(toP p).Kind, (toP p).Dup, (toP p).Retain, (toP p).QoS, (toP p).Id, (toP p).Clean, (toP p).Keep, (toP p).Client, (toP p).HasWill, (toP p).HasUser, (toP p).HasPass, (toP p).WillQoS, (toP p).WillRetain, (toP p).WillProps, (toP p).WillTopic, (toP p).WillLoad, (toP p).User, (toP p).Pass, (toP p).Present, (toP p).Code, (toP p).Topic, (toP p).Load, (toP p).Filters, (toP p).Codes, (toP p).Props⟩ : fn54) = some (x, 0) from g1, g3]
      simp only [Option.bind_some]
      rw [hr, if_pos rfl] at sz
      rw [if_pos (by decide), if_pos (by simp [g2, g4]), show fn81 v (⟨(toP p).Kind, (toP p).Dup, (toP p).Retain, (toP p).QoS, (toP p).Id, (toP p).Clean, (toP p).Keep, (toP p).Client, (toP p).HasWill, (toP p).HasUser, (toP p).HasPass, (toP p).WillQoS, (toP p).WillRetain, (toP p).WillProps, (toP p).WillTopic, (toP p).WillLoad, (toP p).User, (toP p).Pass, (toP p).Present, (toP p).Code, (toP p).Topic, (toP p).Load, (toP p).Filters, (toP p).Codes, (toP p).Props⟩ : fn54) = some ((packN v (nR p)).length : Int) from sz]
      simp only [Option.bind_some]
      rw [if_pos (by simp [g4]), if_neg (by decide)]
      have ef := xv131 (toP p)
      rw [xv36] at ef
      rw [show fn64 (⟨(toP p).Kind, (toP p).Dup, (toP p).Retain, (toP p).QoS, (toP p).Id, (toP p).Clean, (toP p).Keep, (toP p).Client, (toP p).HasWill, (toP p).HasUser, (toP p).HasPass, (toP p).WillQoS, (toP p).WillRetain, (toP p).WillProps, (toP p).WillTopic, (toP p).WillLoad, (toP p).User, (toP p).Pass, (toP p).Present, (toP p).Code, (toP p).Topic, (toP p).Load, (toP p).Filters, (toP p).Codes, (toP p).Props⟩ : fn54) = some (flagN (nR p)) from ef]
      simp only [Option.bind_some]
      rw [show fn131 (⟨p.Kind, p.Dup, p.Retain, p.QoS, p.Id, p.Clean, p.Keep, p.Client, p.HasWill, p.HasUser, p.HasPass, p.WillQoS, p.WillRetain, p.WillProps, p.WillTopic, p.WillLoad, p.User, p.Pass, p.Present, p.Code, p.Topic, p.Load, p.Filters, p.Codes, p.Props⟩ : fn105) = some ((flagN (nR p)).toNat : Int) from xv95 p f0.qs]
      simp only [Option.bind_some]
      have hl := (flagN (nR p)).toNat_lt
      rw [xv0 (by omega) (by omega), if_pos (by simp), t1]
      simp only [Option.bind_some]
      rw [t2]; rfl
end Go.Rv
namespace Go.Rv
theorem xv263 {p : fn105} (h : szSh tab 4 (.g (.st 3)) p) : Can p := by
  obtain ⟨_, _, _, _, _, _, _, h7, _, _, _, _, _, _, h14, h15, h16, h17, _, _, h20, h21, _, h23, _⟩ := h
  have e7 : p.Client.length ≤ 2 ^ 47 := h7
  have e14 : p.WillTopic.length ≤ 2 ^ 47 := h14
  have e15 : p.WillLoad.length ≤ 2 ^ 47 := h15
  have e16 : p.User.length ≤ 2 ^ 47 := h16
  have e17 : p.Pass.length ≤ 2 ^ 47 := h17
  have e20 : p.Topic.length ≤ 2 ^ 47 := h20
  have e21 : p.Load.length ≤ 2 ^ 47 := h21
  have e23 : (L p.Codes).length ≤ 2 ^ 47 := h23
  unfold Can
  omega
end Go.Rv
namespace Go.Rv
theorem xv116 (x : tyL Tb [.g (.f (.a (.n .i64))), .g (.st 3)]) (hx : yv686 tab 4 [.g (.f (.a (.n .i64))), .g (.st 3)] x) : fn22 x.1 (⟨x.2.1.Kind, x.2.1.Dup, x.2.1.Retain, x.2.1.QoS, x.2.1.Id, x.2.1.Clean, x.2.1.Keep, x.2.1.Client, x.2.1.HasWill, x.2.1.HasUser, x.2.1.HasPass, x.2.1.WillQoS, x.2.1.WillRetain, x.2.1.WillProps, x.2.1.WillTopic, x.2.1.WillLoad, x.2.1.User, x.2.1.Pass, x.2.1.Present, x.2.1.Code, x.2.1.Topic, x.2.1.Load, x.2.1.Filters, x.2.1.Codes, x.2.1.Props⟩ : fn105) = some true :=
  xv114 x.1 x.2.1 (xv263 hx.2.1)
end Go.Rv
