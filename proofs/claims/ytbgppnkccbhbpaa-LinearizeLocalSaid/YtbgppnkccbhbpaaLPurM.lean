/- Orders of the keys, merged into one: in plain Lean. -/
import Derived.Test.YtbgppnkccbhbpaaLPur
namespace Go.Proofs.Ytbgppnkccbhbpaa.HistLaw
set_option linter.unusedVariables false
set_option linter.unusedSimpArgs false

/-! ### the indices of the operations on a key -/
def keyIs (l : List O) (k : Ky) (i : Nat) : Bool := match l[i]? with
  | some a => decide (a.key = k)
  | none => false
theorem keyIs_iff {l : List O} {k : Ky} {i : Nat} : keyIs l k i = true ↔ ∃ a, l[i]? = some a ∧ a.key = k := by
  unfold keyIs
  cases h : l[i]? with
  | none => simp
  | some a => simp
def idxs (k : Ky) (l : List O) (m : Nat) : List Nat := (List.range m).filter (keyIs l k)
theorem idxs_succ {k : Ky} {l : List O} {m : Nat} {a : O} (h : l[m]? = some a) : idxs k l (m + 1) = if a.key = k then idxs k l m ++ [m] else idxs k l m := by
  unfold idxs
  rw [List.range_succ, List.filter_append]
  have e : keyIs l k m = decide (a.key = k) := by unfold keyIs; rw [h]
  by_cases hk : a.key = k
  · simp [e, hk]
  · simp [e, hk]
theorem idxs_len (k : Ky) (l : List O) (m : Nat) : (idxs k l m).length ≤ m := Nat.le_trans (List.length_filter_le _ _) (by simp)
theorem idxs_map (k : Ky) (l : List O) : ∀ m, m ≤ l.length → (idxs k l m).map (fun i => l[i]?) = (byKey k (l.take m)).map some
  | 0, _ => by simp [idxs, byKey]
  | m + 1, h => by
    obtain ⟨a, ha⟩ : ∃ a, l[m]? = some a := ⟨_, List.getElem?_eq_getElem (by omega)⟩
    rw [idxs_succ ha, byKey_take ha]
    have ih := idxs_map k l m (by omega)
    split
    · rw [List.map_append, List.map_append, ih]; simp [ha]
    · exact ih
abbrev ix (k : Ky) (l : List O) : List Nat := idxs k l l.length
theorem ix_len (k : Ky) (l : List O) : (ix k l).length = (byKey k l).length := by
  have := congrArg List.length (idxs_map k l l.length (Nat.le_refl _))
  simpa [List.take_length] using this
theorem ix_get {k : Ky} {l : List O} {j : Nat} {a : O} (h : (byKey k l)[j]? = some a) : ∃ i, (ix k l)[j]? = some i ∧ l[i]? = some a := by
  have h1 := congrArg (fun x => x[j]?) (idxs_map k l l.length (Nat.le_refl _))
  simp only [List.take_length, List.getElem?_map, h, Option.map_some] at h1
  cases hi : (idxs k l l.length)[j]? with
  | none => rw [hi] at h1; cases h1
  | some i => rw [hi] at h1; exact ⟨i, rfl, by simpa using h1⟩
theorem ix_nodup (k : Ky) (l : List O) : (ix k l).Nodup := List.nodup_range.filter _
theorem ix_key {k : Ky} {l : List O} {i : Nat} (h : i ∈ ix k l) : ∃ a, l[i]? = some a ∧ a.key = k := keyIs_iff.1 (List.mem_filter.1 h).2
theorem ix_mem {k : Ky} {l : List O} {i : Nat} {a : O} (h : l[i]? = some a) (hk : a.key = k) : i ∈ ix k l := List.mem_filter.2 ⟨List.mem_range.2 (List.getElem?_eq_some_iff.1 h).1, keyIs_iff.2 ⟨a, h, hk⟩⟩
/-- an order of the operations on a key, as indices of the whole history -/
def gOf (k : Ky) (l : List O) (r : List Nat) : List Nat := r.map fun j => (ix k l).getD j 0
theorem gOf_at {k : Ky} {l : List O} {j : Nat} {a : O} (h : (byKey k l)[j]? = some a) : l[(ix k l).getD j 0]? = some a := by
  obtain ⟨i, h1, h2⟩ := ix_get h
  rw [List.getD_eq_getElem?_getD, h1]; exact h2

/-! ### the orders of all keys -/
structure GS (l : List O) (K : List Ky) (gs : List (List Nat)) : Prop where
  len : gs.length = K.length
  key : ∀ (n : Nat) g z, gs[n]? = some g → z ∈ g → ∃ a, l[z]? = some a ∧ K[n]? = some a.key
  nd : ∀ (n : Nat) g, gs[n]? = some g → g.Nodup
  ord : ∀ (n : Nat) g, gs[n]? = some g → Ordd l g
  knd : K.Nodup
def Wt (hs : List (List Nat)) (w : Nat) : Prop := ∃ (n : Nat) (h : List Nat), hs[n]? = some h ∧ w ∈ h
theorem knd_eq {K : List Ky} (h : K.Nodup) {n m : Nat} {k : Ky} (h1 : K[n]? = some k) (h2 : K[m]? = some k) : n = m := by
  obtain ⟨p1, q1⟩ := List.getElem?_eq_some_iff.1 h1
  obtain ⟨p2, q2⟩ := List.getElem?_eq_some_iff.1 h2
  exact (List.getElem_inj h).1 (q1.trans q2.symm)
structure MI (l : List O) (K : List Ky) (gs hs : List (List Nat)) (out : List Nat) : Prop where
  len : hs.length = gs.length
  split : ∀ (n : Nat) k g h, K[n]? = some k → gs[n]? = some g → hs[n]? = some h → out.filter (keyIs l k) ++ h = g
  mem : ∀ z ∈ out, ∃ (n : Nat) (g : List Nat), gs[n]? = some g ∧ z ∈ g
  ord : Ordd l out
  fwd : ∀ z ∈ out, ∀ w, Wt hs w → ∀ a b, l[z]? = some a → l[w]? = some b → ¬ Prec b a
  nd : out.Nodup
  dis : ∀ z ∈ out, ¬ Wt hs z
theorem MI.start {l : List O} {K : List Ky} {gs : List (List Nat)} : MI l K gs gs [] :=
  ⟨rfl, (fun n k g h _ h1 h2 => by rw [h1] at h2; cases h2; rfl), (fun z hz => nomatch hz), .nil, (fun z hz => nomatch hz), .nil, (fun z hz => nomatch hz)⟩
theorem MI.sub {l : List O} {K : List Ky} {gs hs : List (List Nat)} {out : List Nat} (G : GS l K gs) (m : MI l K gs hs out) {n : Nat} {h : List Nat} (hh : hs[n]? = some h) : ∃ g k, gs[n]? = some g ∧ K[n]? = some k ∧ h.Sublist g ∧ h.Nodup ∧ Ordd l h := by
  have hlt := (List.getElem?_eq_some_iff.1 hh).1
  have hl := m.len; have hk := G.len
  obtain ⟨g, hg⟩ : ∃ g, gs[n]? = some g := ⟨_, List.getElem?_eq_getElem (by omega)⟩
  obtain ⟨k, hk'⟩ : ∃ k, K[n]? = some k := ⟨_, List.getElem?_eq_getElem (by omega)⟩
  have e := m.split n k g h hk' hg hh
  have hs : h.Sublist g := by rw [← e]; exact List.sublist_append_right _ _
  exact ⟨g, k, hg, hk', hs, (G.nd n g hg).sublist hs, (G.ord n g hg).sublist hs⟩
theorem MI.keyW {l : List O} {K : List Ky} {gs hs : List (List Nat)} {out : List Nat} (G : GS l K gs) (m : MI l K gs hs out) {n : Nat} {h : List Nat} {w : Nat} (hh : hs[n]? = some h) (hw : w ∈ h) : ∃ a, l[w]? = some a ∧ K[n]? = some a.key := by
  obtain ⟨g, k, hg, hk, hs, _, _⟩ := m.sub G hh
  exact G.key n g w hg (hs.subset hw)
theorem wt_set {hs : List (List Nat)} {n : Nat} {r : List Nat} {i w : Nat} (hh : hs[n]? = some (i :: r)) (h : Wt (hs.set n r) w) : Wt hs w := by
  obtain ⟨m, h', hm, hw⟩ := h
  rw [List.getElem?_set] at hm
  split at hm
  · rename_i e; subst e
    split at hm
    · cases hm; exact ⟨_, _, hh, List.mem_cons_of_mem _ hw⟩
    · cases hm
  · exact ⟨m, h', hm, hw⟩
theorem MI.wt_iff {l : List O} {K : List Ky} {gs hs : List (List Nat)} {out : List Nat} (G : GS l K gs) (m : MI l K gs hs out) {n : Nat} {r : List Nat} {i w : Nat} (hh : hs[n]? = some (i :: r)) : Wt (hs.set n r) w ↔ Wt hs w ∧ w ≠ i := by
  obtain ⟨_, _, _, _, _, hnd, _⟩ := m.sub G hh
  rw [List.nodup_cons] at hnd
  have hlt := (List.getElem?_eq_some_iff.1 hh).1
  constructor
  · intro h
    refine ⟨wt_set hh h, ?_⟩
    rintro rfl
    obtain ⟨m', h', hm, hw⟩ := h
    rw [List.getElem?_set] at hm
    split at hm
    · rename_i e; subst e
      (try rw [if_pos hlt] at hm)
      cases hm; exact hnd.1 hw
    · rename_i e
      obtain ⟨a, ha, hk⟩ := m.keyW G hh (w := w) (by simp)
      obtain ⟨b, hb, hk'⟩ := m.keyW G hm hw
      rw [ha] at hb; cases hb
      exact e (knd_eq G.knd hk hk')
  · rintro ⟨⟨m', h', hm, hw⟩, hne⟩
    by_cases e : n = m'
    · subst e
      rw [hh] at hm; cases hm
      exact ⟨n, r, by rw [List.getElem?_set_self hlt], (List.mem_cons.1 hw).resolve_left hne⟩
    · exact ⟨m', h', by rw [List.getElem?_set_ne e]; exact hm, hw⟩
def FreeW (l : List O) (hs : List (List Nat)) (i : Nat) : Prop := ∀ w a b, Wt hs w → l[w]? = some a → l[i]? = some b → ¬ Prec a b
theorem MI.pop {l : List O} {K : List Ky} {gs hs : List (List Nat)} {out : List Nat} (G : GS l K gs) (m : MI l K gs hs out) {n : Nat} {r : List Nat} {i : Nat} (hh : hs[n]? = some (i :: r)) (hf : FreeW l hs i) : MI l K gs (hs.set n r) (out ++ [i]) := by
  have hlt := (List.getElem?_eq_some_iff.1 hh).1
  obtain ⟨g0, k0, hg0, hk0, hsub, _, _⟩ := m.sub G hh
  obtain ⟨a0, ha0, hka0⟩ := m.keyW G hh (w := i) (by simp)
  rw [hk0] at hka0
  have hwi : Wt hs i := ⟨n, _, hh, by simp⟩
  refine ⟨by rw [List.length_set]; exact m.len, fun n' k g h hk hg hs' => ?_, fun z hz => ?_, ?_, fun z hz w hw a b ha hb => ?_, ?_, fun z hz hw => ?_⟩
  · rw [List.filter_append]
    rw [List.getElem?_set] at hs'
    by_cases e : n = n'
    · subst e
      rw [if_pos rfl, if_pos hlt] at hs'
      cases hs'
      rw [hk0] at hk; cases hk
      have := m.split n _ g _ hk0 hg hh
      rw [← this]
      have hki : keyIs l k0 i = true := keyIs_iff.2 ⟨a0, ha0, (Option.some.inj hka0).symm⟩
      simp [hki]
    · rw [if_neg e] at hs'
      have hki : keyIs l k i = false := by
        cases hx : keyIs l k i with
        | false => rfl
        | true =>
          obtain ⟨a, ha, hk'⟩ := keyIs_iff.1 hx
          rw [ha0] at ha; cases ha
          have hk00 : k0 = a0.key := Option.some.inj hka0
          subst hk'
          rw [hk00] at hk0
          exact absurd (knd_eq G.knd hk0 hk) e
      have := m.split n' k g h hk hg hs'
      simp [hki, this]
  · rcases List.mem_append.1 hz with h1 | h1
    · exact m.mem z h1
    · simp at h1; subst h1
      exact ⟨n, g0, hg0, hsub.subset (by simp)⟩
  · unfold Ordd
    rw [List.pairwise_append]
    refine ⟨m.ord, by simp, fun z hz j hj => ?_⟩
    simp at hj; subst hj
    exact fun a b ha hb => m.fwd z hz j hwi a b ha hb
  · rcases List.mem_append.1 hz with h1 | h1
    · exact m.fwd z h1 w (wt_set hh hw) a b ha hb
    · simp at h1; subst h1
      exact hf w b a (wt_set hh hw) hb ha
  · rw [List.nodup_append]
    refine ⟨m.nd, by simp, fun z hz j hj => ?_⟩
    simp at hj; subst hj
    rintro rfl
    exact m.dis z hz hwi
  · have h2 := (m.wt_iff G hh).1 hw
    rcases List.mem_append.1 hz with h1 | h1
    · exact m.dis z h1 h2.1
    · simp at h1; exact h2.2 h1
/-- where something waits, some head is free -/
theorem MI.free {l : List O} {K : List Ky} {gs hs : List (List Nat)} {out : List Nat} (hv : Valid l) (G : GS l K gs) (m : MI l K gs hs out) : ∀ (c n i : Nat) (r : List Nat) (a : O), hs[n]? = some (i :: r) → l[i]? = some a → a.inv.toNat ≤ c → ∃ (n' i' : Nat) (r' : List Nat), hs[n']? = some (i' :: r') ∧ FreeW l hs i' := by
  intro c
  induction c with
  | zero =>
    intro n i r a hh ha hc
    refine ⟨n, i, r, hh, fun w b a' hw hb ha' hp => ?_⟩
    rw [ha] at ha'; cases ha'
    obtain ⟨h1, h2⟩ := hp
    omega
  | succ c ih =>
    intro n i r a hh ha hc
    by_cases hf : FreeW l hs i
    · exact ⟨n, i, r, hh, hf⟩
    · unfold FreeW at hf
      simp only [Classical.not_forall, Classical.not_not] at hf
      obtain ⟨w, b, a', hw, hb, ha', hp⟩ := hf
      rw [ha] at ha'; cases ha'
      obtain ⟨n2, h2, hh2, hw2⟩ := hw
      cases h2 with
      | nil => cases hw2
      | cons i2 r2 =>
        obtain ⟨_, _, _, _, _, _, hord⟩ := m.sub G hh2
        obtain ⟨a2, ha2, _⟩ := m.keyW G hh2 (w := i2) (by simp)
        have hnp : ¬ Prec b a2 := by
          rcases List.mem_cons.1 hw2 with e | e
          · subst e; rw [hb] at ha2; cases ha2
            rintro ⟨q1, q2⟩
            have := hv.resp hb q1
            omega
          · unfold Ordd at hord
            rw [List.pairwise_cons] at hord
            exact hord.1 w e a2 b ha2 hb
        obtain ⟨q1, q2⟩ := hp
        have h0 : 0 ≤ a2.inv := ((hv i2 a2 ha2).1).2.2.1
        have : a2.inv ≤ b.rsp := by
          apply Classical.byContradiction
          intro hn
          exact hnp ⟨q1, by omega⟩
        exact ih n2 i2 r2 a2 hh2 ha2 (by omega)

/-! ### what an explanation is -/
def repK (l : List O) (k : Ky) : Cell → List Int → Prop
  | c, [] => True
  | c, z :: r => ∀ a, l[z.toNat]? = some a → if a.key = k then okR a (doL c a).2 ∧ repK l k (doL c a).1 r else repK l k c r
structure VerOK (l : List O) (ord : List Int) : Prop where
  val : Valid l
  rng : ∀ z ∈ ord, 0 ≤ z ∧ z < l.length
  nd : ord.Nodup
  prec : ord.Pairwise fun x y => ∀ a b, l[x.toNat]? = some a → l[y.toNat]? = some b → ¬ Prec b a
  all : ∀ (i : Nat) a, l[i]? = some a → 0 ≤ a.rsp → (i : Int) ∈ ord
  rep : ∀ k, repK l k (false, 0) ord
def zsN (r : List Nat) : List Int := r.map fun i : Nat => (i : Int)
theorem rep_of {l : List O} {k : Ky} : ∀ {out : List Nat} {c : Cell}, repL l c (out.filter (keyIs l k)) → repK l k c (zsN out)
  | [], c, _ => trivial
  | i :: r, c, h => by
    intro a ha
    rw [Int.toNat_natCast] at ha
    by_cases hk : a.key = k
    · have hki : keyIs l k i = true := keyIs_iff.2 ⟨a, ha, hk⟩
      rw [List.filter_cons_of_pos hki] at h
      obtain ⟨b, hb, h1, h2⟩ := h
      rw [ha] at hb; cases hb
      rw [if_pos hk]
      exact ⟨h1, rep_of h2⟩
    · have hki : ¬ keyIs l k i = true := fun e => by
        obtain ⟨b, hb, e2⟩ := keyIs_iff.1 e
        rw [ha] at hb; cases hb; exact hk e2
      rw [List.filter_cons_of_neg hki] at h
      rw [if_neg hk]
      exact rep_of h
theorem repL_gOf {k : Ky} {l : List O} : ∀ {r : List Nat} {c : Cell}, repL (byKey k l) c r → repL l c (gOf k l r)
  | [], _, _ => trivial
  | j :: r, c, h => by
    obtain ⟨a, ha, h1, h2⟩ := h
    exact ⟨a, gOf_at ha, h1, repL_gOf h2⟩
theorem repL_keys {l : List O} : ∀ {r : List Nat} {c : Cell}, r = [] → repL l c r
  | _, _, rfl => trivial
/-- orders that explain their keys -/
structure GR (l : List O) (gs : List (List Nat)) : Prop where
  G : GS l (keysO l) gs
  run : ∀ (n : Nat) k g, (keysO l)[n]? = some k → gs[n]? = some g → ∃ r, Run (byKey k l) 0 (false, 0) r ∧ g = gOf k l r
theorem gOf_inj {k : Ky} {l : List O} {r : List Nat} (hr : ∀ j ∈ r, j < (byKey k l).length) (hn : r.Nodup) : (gOf k l r).Nodup := by
  unfold gOf
  rw [List.Nodup, List.pairwise_map]
  refine hn.imp_of_mem fun {i j} hi hj hne e => hne ?_
  have h1 := hr i hi; have h2 := hr j hj
  rw [← ix_len] at h1 h2
  rw [List.getD_eq_getElem?_getD, List.getD_eq_getElem?_getD, List.getElem?_eq_getElem h1, List.getElem?_eq_getElem h2] at e
  exact (List.getElem_inj (ix_nodup k l)).1 e
theorem gOf_ordd {k : Ky} {l : List O} {r : List Nat} (hr : ∀ j ∈ r, j < (byKey k l).length) (h : Ordd (byKey k l) r) : Ordd l (gOf k l r) := by
  unfold gOf Ordd
  rw [List.pairwise_map]
  refine List.Pairwise.imp_of_mem (fun {i j} hi hj hp a b ha hb => ?_) h
  obtain ⟨a', ha'⟩ : ∃ a', (byKey k l)[i]? = some a' := ⟨_, List.getElem?_eq_getElem (hr i hi)⟩
  obtain ⟨b', hb'⟩ : ∃ b', (byKey k l)[j]? = some b' := ⟨_, List.getElem?_eq_getElem (hr j hj)⟩
  rw [gOf_at ha'] at ha; rw [gOf_at hb'] at hb
  cases ha; cases hb
  exact hp _ _ ha' hb'
theorem GR.of {l : List O} {gs : List (List Nat)} (hlen : gs.length = (keysO l).length) (h : ∀ (n : Nat) k g, (keysO l)[n]? = some k → gs[n]? = some g → ∃ r, Run (byKey k l) 0 (false, 0) r ∧ g = gOf k l r) : GR l gs := by
  refine ⟨⟨hlen, fun n g z hg hz => ?_, fun n g hg => ?_, fun n g hg => ?_, keysO_nodup l⟩, h⟩
  all_goals
    have hlt := (List.getElem?_eq_some_iff.1 hg).1
    obtain ⟨k, hk⟩ : ∃ k, (keysO l)[n]? = some k := ⟨_, List.getElem?_eq_getElem (by omega)⟩
    obtain ⟨r, hr, rfl⟩ := h n k g hk hg
  · obtain ⟨j, hj, rfl⟩ := List.mem_map.1 hz
    obtain ⟨a, ha⟩ : ∃ a, (byKey k l)[j]? = some a := ⟨_, List.getElem?_eq_getElem (hr.lt j hj)⟩
    have h1 := gOf_at ha
    refine ⟨a, h1, ?_⟩
    rw [hk]
    have : a.key = k := by
      have := (List.mem_filter.1 (List.mem_of_getElem? ha)).2
      simpa using this
    rw [this]
  · exact gOf_inj hr.lt hr.fresh.1
  · exact gOf_ordd hr.lt hr.ordd
theorem GR.ver {l : List O} {gs hs : List (List Nat)} {out : List Nat} (hv : Valid l) (R : GR l gs) (m : MI l (keysO l) gs hs out) (he : ∀ w, ¬ Wt hs w) : VerOK l (zsN out) := by
  have hfil : ∀ (n : Nat) k g, (keysO l)[n]? = some k → gs[n]? = some g → out.filter (keyIs l k) = g := fun n k g hk hg => by
    obtain ⟨h, hh⟩ : ∃ h, hs[n]? = some h := ⟨_, List.getElem?_eq_getElem (by rw [m.len]; exact (List.getElem?_eq_some_iff.1 hg).1)⟩
    have := m.split n k g h hk hg hh
    cases h with
    | nil => rw [List.append_nil] at this; exact this
    | cons i r => exact absurd ⟨n, _, hh, by simp⟩ (he i)
  refine ⟨hv, fun z hz => ?_, ?_, ?_, fun i a ha h0 => ?_, fun k => ?_⟩
  · obtain ⟨i, hi, rfl⟩ := List.mem_map.1 hz
    obtain ⟨n, g, hg, hig⟩ := m.mem i hi
    obtain ⟨a, ha, _⟩ := R.G.key n g i hg hig
    have := (List.getElem?_eq_some_iff.1 ha).1
    omega
  · unfold zsN
    rw [List.Nodup, List.pairwise_map]
    exact m.nd.imp fun {i j} h e => h (by omega)
  · unfold zsN
    rw [List.pairwise_map]
    exact m.ord.imp fun {i j} h a b ha hb => h a b (by simpa using ha) (by simpa using hb)
  · obtain ⟨n, hn⟩ := List.getElem?_of_mem (keysO_mem (List.mem_of_getElem? ha))
    obtain ⟨g, hg⟩ : ∃ g, gs[n]? = some g := ⟨_, List.getElem?_eq_getElem (by have := R.G.len; have := (List.getElem?_eq_some_iff.1 hn).1; omega)⟩
    obtain ⟨r, hr, hgr⟩ := R.run n _ g hn hg
    obtain ⟨j, hj⟩ := List.getElem?_of_mem (ix_mem ha rfl)
    have hjl := (List.getElem?_eq_some_iff.1 hj).1
    rw [ix_len] at hjl
    obtain ⟨a', ha'⟩ : ∃ a', (byKey a.key l)[j]? = some a' := ⟨_, List.getElem?_eq_getElem hjl⟩
    obtain ⟨i', hi', hl'⟩ := ix_get ha'
    rw [hj] at hi'; cases hi'
    rw [ha] at hl'; cases hl'
    have hjr : j ∈ r := (hr.all j a ha' h0).resolve_left (by simp)
    have : i ∈ g := by
      rw [hgr]
      refine List.mem_map.2 ⟨j, hjr, ?_⟩
      rw [List.getD_eq_getElem?_getD, hj]; rfl
    rw [← hfil n _ g hn hg] at this
    exact List.mem_map.2 ⟨i, (List.mem_filter.1 this).1, rfl⟩
  · apply rep_of
    by_cases hk : k ∈ keysO l
    · obtain ⟨n, hn⟩ := List.getElem?_of_mem hk
      obtain ⟨g, hg⟩ : ∃ g, gs[n]? = some g := ⟨_, List.getElem?_eq_getElem (by have := R.G.len; have := (List.getElem?_eq_some_iff.1 hn).1; omega)⟩
      rw [hfil n k g hn hg]
      obtain ⟨r, hr, rfl⟩ := R.run n k g hn hg
      exact repL_gOf hr.rep
    · refine repL_keys (List.filter_eq_nil_iff.2 fun z hz e => hk ?_)
      obtain ⟨a, ha, rfl⟩ := keyIs_iff.1 e
      exact keysO_mem (List.mem_of_getElem? ha)
end Go.Proofs.Ytbgppnkccbhbpaa.HistLaw
