/- Own text: HL19. -/
import Derived.Test.YtlpolnmadfmphaaHL3
import Derived.Test.YtlpolnmadfmphaaAmBit
set_option maxRecDepth 100000
set_option linter.unusedVariables false
set_option linter.unusedSimpArgs false
namespace Go.Am
open Go
def nx (t : Tab) (now op : Int) : Int := (t.getD now.toNat []).getD op.toNat 0
def spOf (S : List Spec) (c : Call) : Spec := S.getD c.ob.toNat (0, 0, [], [])
def nowOf (c : Call) (s : Int × Int) : Int := bif decide (c.ob = 0) then s.1 else s.2
def doS (S : List Spec) (c : Call) (s : Int × Int) : Int × Int := bif decide (c.ob = 0) then (nx (spOf S c).2.2.1 (nowOf c s) c.op, s.2) else (s.1, nx (spOf S c).2.2.1 (nowOf c s) c.op)
def okS (S : List Spec) (c : Call) (s : Int × Int) : Bool := decide (c.to = 0) || decide (nx (spOf S c).2.2.2 (nowOf c s) c.op = c.sa)
def stOk (S : List Spec) (s : Int × Int) : Prop := (∀ x, S[0]? = some x → 0 ≤ s.1 ∧ s.1 < x.1) ∧ ∀ x, S[1]? = some x → 0 ≤ s.2 ∧ s.2 < x.1
def callIn (S : List Spec) (c : Call) : Prop := (c.ob = 0 ∨ c.ob = 1) ∧ ∃ x, S[c.ob.toNat]? = some x ∧ specOk x = true ∧ 0 ≤ c.op ∧ c.op < x.2.1
theorem tab_get {st ops lim : Int} {t : Tab} (h : tabOk st ops lim t = true) {now op : Int} (h1 : 0 ≤ now) (h2 : now < st) (h3 : 0 ≤ op) (h4 : op < ops) :
    ∃ r, t[now.toNat]? = some r ∧ r[op.toNat]? = some (nx t now op) ∧ 0 ≤ nx t now op ∧ nx t now op ≤ lim := by
  simp only [tabOk, Bool.and_eq_true, decide_eq_true_eq, List.all_eq_true] at h
  obtain ⟨hl, hr⟩ := h
  have hlt : now.toNat < t.length := by omega
  have hrow := hr _ (List.getElem_mem hlt)
  simp only [rowOk, Bool.and_eq_true, decide_eq_true_eq, List.all_eq_true] at hrow
  have hlt2 : op.toNat < t[now.toNat].length := by omega
  have hn := hrow.2 _ (List.getElem_mem hlt2)
  rw [btw_true] at hn
  have e : nx t now op = t[now.toNat][op.toNat] := by
    simp only [nx, List.getD_eq_getElem?_getD, List.getElem?_eq_getElem hlt, Option.getD_some, List.getElem?_eq_getElem hlt2]
  refine ⟨_, List.getElem?_eq_getElem hlt, ?_, ?_⟩
  · rw [e]; exact List.getElem?_eq_getElem hlt2
  · rw [e]; exact hn
theorem specOk_iff (x : Spec) : specOk x = true ↔ (1 ≤ x.1 ∧ x.1 ≤ 8) ∧ (1 ≤ x.2.1 ∧ x.2.1 ≤ 4) ∧ tabOk x.1 x.2.1 (x.1 - 1) x.2.2.1 = true ∧ tabOk x.1 x.2.1 5 x.2.2.2 = true := by
  simp only [specOk, Bool.and_eq_true, btw_true]
theorem callIn_now {S : List Spec} {c : Call} (hc : callIn S c) {s : Int × Int} (hs : stOk S s) : ∃ x, S[c.ob.toNat]? = some x ∧ spOf S c = x ∧ specOk x = true ∧ 0 ≤ nowOf c s ∧ nowOf c s < x.1 ∧ 0 ≤ c.op ∧ c.op < x.2.1 := by
  obtain ⟨hob, x, hx, hsx, h1, h2⟩ := hc
  refine ⟨x, hx, by simp [spOf, List.getD_eq_getElem?_getD, hx], hsx, ?_⟩
  rcases hob with h | h
  · have q := hs.1 x (by rw [h] at hx; exact hx)
    simp only [nowOf, h, decide_true, cond_true]; exact ⟨q.1, q.2, h1, h2⟩
  · have q := hs.2 x (by rw [h] at hx; exact hx)
    have hz : decide ((1 : Int) = 0) = false := rfl
    simp only [nowOf, h, hz, cond_false]; exact ⟨q.1, q.2, h1, h2⟩
theorem doS_ok {S : List Spec} {c : Call} (hc : callIn S c) {s : Int × Int} (hs : stOk S s) : stOk S (doS S c s) := by
  obtain ⟨x, hx, e, hsx, h1, h2, h3, h4⟩ := callIn_now hc hs
  obtain ⟨_, _, t1, _⟩ := (specOk_iff x).1 hsx
  obtain ⟨r, _, _, g3, g4⟩ := tab_get t1 h1 h2 h3 h4
  unfold doS
  rw [e]
  rcases hc.1 with h | h
  · simp only [h, decide_true, cond_true]
    refine ⟨fun y hy => ?_, hs.2⟩
    rw [h] at hx
    have : y = x := by have := hx.symm.trans (show S[(0 : Int).toNat]? = some y from hy); exact (Option.some.inj this).symm
    subst this; exact ⟨g3, by omega⟩
  · have hz : decide ((1 : Int) = 0) = false := rfl
    simp only [h, hz, cond_false]
    refine ⟨hs.1, fun y hy => ?_⟩
    rw [h] at hx
    have : y = x := by have := hx.symm.trans (show S[(1 : Int).toNat]? = some y from hy); exact (Option.some.inj this).symm
    subst this; exact ⟨g3, by omega⟩
theorem H78a_eq {S : List Spec} {c : Call} (hc : callIn S c) {s : Int × Int} (hs : stOk S s) : H78a Ar.std s.1 s.2 (eSpecs S) c.1 c.2.1 c.2.2.1 c.2.2.2.1 c.2.2.2.2.1 c.2.2.2.2.2 = some ((doS S c s).1, (doS S c s).2, okS S c s) := by
  obtain ⟨x, hx, e, hsx, h1, h2, h3, h4⟩ := callIn_now hc hs
  obtain ⟨_, _, t1, t2⟩ := (specOk_iff x).1 hsx
  obtain ⟨r, g1, g2, g3, g4⟩ := tab_get t1 h1 h2 h3 h4
  obtain ⟨q, k1, k2, k3, k4⟩ := tab_get t2 h1 h2 h3 h4
  have hob : 0 ≤ c.2.1 := by rcases hc.1 with h | h <;> simp only [Call.ob] at h <;> omega
  have e1 := gt_eSpecsI (l := S) hob hx
  have e2 := gt_eTabI h1 g1
  have e3 := gt_encI (c := cI .i64) (l := r) h3 g2
  have e4 := gt_eTabI h1 k1
  have e5 := gt_encI (c := cI .i64) (l := q) h3 k2
  simp only [H78a, e1, bsome, std_zeq]
  rcases hc.1 with h | h
  · simp only [Call.ob] at h
    simp only [nowOf, Call.ob, h, decide_true, cond_true] at e2 e3 e4 e5
    simp only [h, decide_true, cond_true, bsome, e2, e3, e4, e5, cond_some, doS, okS, Call.ob, e, nowOf]
    cases decide (c.2.2.2.2.2 = 0) <;> simp
  · simp only [Call.ob] at h
    have hz : decide ((1 : Int) = 0) = false := rfl
    simp only [nowOf, Call.ob, h, hz, cond_false] at e2 e3 e4 e5
    simp only [h, hz, decide_true, cond_true, cond_false, bsome, e2, e3, e4, e5, cond_some, doS, okS, Call.ob, e, nowOf]
    cases decide (c.2.2.2.2.2 = 0) <;> simp
theorem forH_in {S : List Spec} {h : List Call} (ha : areS S = true) (hf : forH S h = true) : h.length ≤ 8 ∧ ∀ c ∈ h, callOk c = true ∧ callIn S c := by
  simp only [forH, Bool.and_eq_true, List.all_eq_true] at hf
  simp only [areS, Bool.and_eq_true, btw_true, List.all_eq_true] at ha
  obtain ⟨h1, h2⟩ := validH_ok hf.1
  refine ⟨h1, fun c hc => ⟨h2 c hc, ?_⟩⟩
  have hcc := (callOk_iff c).1 (h2 c hc)
  refine ⟨by omega, ?_⟩
  have := hf.2 c hc
  unfold fitC at this
  cases hx : S[c.ob.toNat]? with
  | none => rw [hx] at this; cases this
  | some x =>
    rw [hx] at this
    exact ⟨x, rfl, ha.2 x (List.mem_of_getElem? hx), hcc.2.2.1.1, by simpa using this⟩
theorem stOk_zero {S : List Spec} (ha : areS S = true) : stOk S (0, 0) := by
  simp only [areS, Bool.and_eq_true, btw_true, List.all_eq_true] at ha
  constructor <;> intro x hx <;> have := ((specOk_iff x).1 (ha.2 x (List.mem_of_getElem? hx))).1 <;> (refine ⟨by decide, ?_⟩) <;> show (0 : Int) < x.1 <;> omega
section
variable (S : List Spec) (h : List Call) (must : Call → Call → Bool)
def endsM (m : Nat) : Bool := !(List.range h.length).any fun i => (h[i]?.map fun c => decide (0 < c.to) && !m.testBit i).getD false
def freeM (m i : Nat) (c : Call) : Bool := !m.testBit i && (List.range h.length).all fun k => m.testBit k || (h[k]?.map fun d => !must d c).getD true
def nextM (m : Nat) (s : Int × Int) (i : Nat) : Option (Nat × Int × Int) := h[i]?.bind fun c => bif freeM h must m i c && okS S c s then some (ins m i, doS S c s) else none
def dfs : Nat → Nat → Int × Int → List (List Nat)
  | 0, m, s => bif endsM h m then [[]] else []
  | f + 1, m, s => (bif endsM h m then [[]] else []) ++ (List.range h.length).flatMap fun i => ((nextM S h must m s i).map fun p => (dfs f p.1 p.2).map (i :: ·)).getD []
def room (m : Nat) : Nat := (List.range h.length).countP fun i => !m.testBit i
def ords (m : Nat) (s : Int × Int) : List (List Nat) := dfs S h must (room h m) m s
end
theorem countP_lt' {p p' : Nat → Bool} {i : Nat} {l : List Nat} (hn : l.Nodup) (hi : i ∈ l) (hp : p i = true) (hp' : p' i = false) (hne : ∀ k, k ≠ i → p' k = p k) : l.countP p' + 1 = l.countP p := by
  induction l with
  | nil => simp at hi
  | cons k r ih =>
    simp only [List.nodup_cons] at hn
    simp only [List.countP_cons]
    by_cases hk : k = i
    · subst hk
      have : r.countP p' = r.countP p := List.countP_congr fun q hq => by rw [hne q (by rintro rfl; exact hn.1 hq)]
      simp [hp, hp', this]
    · have hir : i ∈ r := by rcases List.mem_cons.1 hi with h | h; exact absurd h.symm hk; exact h
      have := ih hn.2 hir
      rw [hne k hk]; omega
theorem room_ins {h : List Call} {m i : Nat} (hi : i < h.length) (hm : m.testBit i = false) : room h (ins m i) + 1 = room h m := by
  refine countP_lt' List.nodup_range (List.mem_range.2 hi) (by simp [hm]) (by simp [ins_test]) fun k hk => ?_
  have : ¬ i = k := fun e => hk e.symm
  simp [ins_test, this]
theorem nextM_some {S : List Spec} {h : List Call} {must : Call → Call → Bool} {m : Nat} {s : Int × Int} {i : Nat} {p : Nat × Int × Int} (hp : nextM S h must m s i = some p) :
    ∃ c, h[i]? = some c ∧ i < h.length ∧ m.testBit i = false ∧ freeM h must m i c = true ∧ okS S c s = true ∧ p = (ins m i, doS S c s) := by
  unfold nextM at hp
  cases hc : h[i]? with
  | none => rw [hc] at hp; cases hp
  | some c =>
    rw [hc] at hp
    simp only [Option.bind_some] at hp
    cases hf : freeM h must m i c <;> cases ho : okS S c s <;> simp [hf, ho] at hp
    refine ⟨c, rfl, (List.getElem?_eq_some_iff.1 hc).1, ?_, hf, ho, hp.symm⟩
    simp only [freeM, Bool.and_eq_true] at hf
    simpa using hf.1
theorem ords_eq (S : List Spec) (h : List Call) (must : Call → Call → Bool) (m : Nat) (s : Int × Int) :
    ords S h must m s = (bif endsM h m then [[]] else []) ++ (List.range h.length).flatMap fun i => ((nextM S h must m s i).map fun p => (ords S h must p.1 p.2).map (i :: ·)).getD [] := by
  have hstep : ∀ i, ((nextM S h must m s i).map fun p => (ords S h must p.1 p.2).map (i :: ·)) = (nextM S h must m s i).map fun p => (dfs S h must (room h m - 1) p.1 p.2).map (i :: ·) := by
    intro i
    cases hn : nextM S h must m s i with
    | none => rfl
    | some p =>
      obtain ⟨c, hc, hi, ht, _, _, rfl⟩ := nextM_some hn
      have := room_ins hi ht
      simp only [Option.map_some, ords]
      rw [show room h (ins m i) = room h m - 1 by omega]
  unfold ords at hstep ⊢
  cases hr : room h m with
  | zero =>
    have : ∀ i ∈ List.range h.length, ((nextM S h must m s i).map fun p => (dfs S h must (room h p.1) p.1 p.2).map (i :: ·)).getD [] = [] := by
      intro i hi
      cases hn : nextM S h must m s i with
      | none => rfl
      | some p =>
        obtain ⟨c, hc, hi, ht, _, _, rfl⟩ := nextM_some hn
        have := room_ins hi ht
        omega
    rw [flatMap_cong this]
    simp [dfs]
  | succ f =>
    rw [hr] at hstep
    simp only [Nat.add_sub_cancel] at hstep
    simp only [dfs, hstep]
end Go.Am

set_option maxRecDepth 100000
set_option linter.unusedVariables false
set_option linter.unusedSimpArgs false
namespace Go.Am
open Go
theorem H124a_eq {m i : Nat} (hm : m < 256) (hi : i ≤ 8) : H124a Ar.std (m : Int) (i : Int) = some (m.testBit i) := by
  have h0 : decide ((i : Int) < 0) = false := by simp
  simp only [H124a, std_zlt, h0, nk_false, bsome, std_zeq, std_bits, std_shr, has_u8 m i hm hi]
def keyP (m : Nat) (s : Int × Int) : D := .agg [.int .u8 m, .int .i64 s.1, .int .i64 s.2]
theorem keyP_inj {m m' : Nat} {s s' : Int × Int} (h : keyP m s = keyP m' s') : m = m' ∧ s = s' := by
  simp only [keyP, D.agg.injEq, List.cons.injEq, D.int.injEq, true_and, and_true] at h
  exact ⟨by omega, Prod.ext h.2.1 h.2.2⟩
def GoodM (S : List Spec) (h : List Call) (must : Call → Call → Bool) (mp : List (D × D)) : Prop := ∀ (m : Nat) (s : Int × Int) (v : D), Am.mget mp (keyP m s) = some v → v = .int .i64 ((ords S h must m s).length : Int)
theorem GoodM.nil (S : List Spec) (h : List Call) (must : Call → Call → Bool) : GoodM S h must [] := fun m s v hv => by simp [Am.mget] at hv
theorem GoodM.put {S : List Spec} {h : List Call} {must : Call → Call → Bool} {mp : List (D × D)} (hg : GoodM S h must mp) (m : Nat) (s : Int × Int) : GoodM S h must (Am.mput mp (keyP m s) (.int .i64 ((ords S h must m s).length : Int))) := by
  intro m' s' v hv
  rw [mget_mput] at hv
  split at hv
  · rename_i e
    obtain ⟨rfl, rfl⟩ := keyP_inj e
    exact (Option.some.inj hv).symm
  · exact hg m' s' v hv
def contr (S : List Spec) (h : List Call) (must : Call → Call → Bool) (m : Nat) (s : Int × Int) (i : Nat) : Nat := ((nextM S h must m s i).map fun p => (ords S h must p.1 p.2).length).getD 0
theorem ords_len (S : List Spec) (h : List Call) (must : Call → Call → Bool) (m : Nat) (s : Int × Int) : (ords S h must m s).length = (bif endsM h m then 1 else 0) + ((List.range h.length).map (contr S h must m s)).sum := by
  rw [ords_eq, List.length_append, List.length_flatMap]
  congr 1
  · cases endsM h m <;> rfl
  · congr 1
    refine List.map_congr_left fun i _ => ?_
    unfold contr
    cases nextM S h must m s i <;> simp
theorem sum_le {f : Nat → Nat} {n : Nat} : ∀ {i : Nat}, i ≤ n → ((List.range i).map f).sum ≤ ((List.range n).map f).sum := by
  intro i hi
  obtain ⟨k, rfl⟩ : ∃ k, n = i + k := ⟨n - i, by omega⟩
  rw [List.range_add, List.map_append, List.sum_append]
  omega
theorem dfs_len (S : List Spec) (h : List Call) (must : Call → Call → Bool) (hl : h.length ≤ 8) : ∀ (f m : Nat) (s : Int × Int), (dfs S h must f m s).length ≤ 9 ^ (f + 1) := by
  intro f
  induction f with
  | zero => intro m s; simp only [dfs]; cases endsM h m <;> simp
  | succ f ih =>
    intro m s
    have hs : ∀ l : List Nat, ((l.flatMap fun i => ((nextM S h must m s i).map fun p => (dfs S h must f p.1 p.2).map (i :: ·)).getD [])).length ≤ l.length * 9 ^ (f + 1) := by
      intro l
      induction l with
      | nil => simp
      | cons i l ihl =>
        rw [List.flatMap_cons, List.length_append, List.length_cons, Nat.succ_mul]
        have : (((nextM S h must m s i).map fun p => (dfs S h must f p.1 p.2).map (i :: ·)).getD []).length ≤ 9 ^ (f + 1) := by
          cases nextM S h must m s i with
          | none => simp
          | some p => simpa using ih p.1 p.2
        omega
    have h1 := hs (List.range h.length)
    simp only [dfs, List.length_append]
    have h2 : (bif endsM h m then [[]] else [] : List (List Nat)).length ≤ 1 := by cases endsM h m <;> simp
    have h3 : (List.range h.length).length * 9 ^ (f + 1) ≤ 8 * 9 ^ (f + 1) := Nat.mul_le_mul_right _ (by simpa using hl)
    have h4 : 9 ^ (f + 1 + 1) = 9 * 9 ^ (f + 1) := by rw [Nat.pow_succ]; omega
    have h5 : 1 ≤ 9 ^ (f + 1) := Nat.one_le_pow _ _ (by decide)
    omega
theorem ords_lt (S : List Spec) (h : List Call) (must : Call → Call → Bool) (hl : h.length ≤ 8) (m : Nat) (s : Int × Int) : (ords S h must m s).length < 1000000000 := by
  have h1 := dfs_len S h must hl (room h m) m s
  have h2 : room h m ≤ 8 := by
    have := List.countP_le_length (p := fun i => !m.testBit i) (l := List.range h.length)
    unfold room; rw [List.length_range] at this; omega
  have h3 : 9 ^ (room h m + 1) ≤ 9 ^ 9 := Nat.pow_le_pow_right (by decide) (by omega)
  have h4 : (9 : Nat) ^ 9 = 387420489 := by decide
  unfold ords; omega
def way (S : List Spec) (h : List Call) (must : Call → Call → Bool) (m : Nat) (s : Int × Int) : List Nat := ((ords S h must m s).head?).getD []
section
variable {S : List Spec} {h : List Call}
theorem H115a_eq (hl : h.length ≤ 8) {m : Nat} (hm : m < 256) (s1 s2 : Int) (mp : List (D × D)) (x : List D) : H115a Ar.std (m : Int) s1 s2 mp x (eCalls h) = some (endsM h m) := by
  have e : iter (H115aL0 Ar.std (m : Int) (eCalls h)) 0 = some (bif (List.range h.length).any (fun i => (h[i]?.map fun c => decide (0 < c.to) && !m.testBit i).getD false) then .inr () else .inl ()) := by
    refine iter_rng h.length _ _ _ (fun i hi => ?_) ?_
    · have hc := List.getElem?_eq_getElem hi
      generalize h[i] = c at hc
      simp only [H115aL0, std_zlt, len_enc, ltC hi, cond_true, gt_enc hc, bsome, H124a_eq hm (by omega : i ≤ 8), std_wrp, std_zadd, wrap1 hi (by omega), hc, Option.map_some, Option.getD_some, Call.to]
      cases decide (0 < c.2.2.2.2.2) <;> cases m.testBit i <;> rfl
    · simp [H115aL0]
  simp only [H115a, e, bsome, endsM]
  cases (List.range h.length).any _ <;> rfl
theorem H125aL0_eq (hl : h.length ≤ 8) (hok : ∀ c ∈ h, callOk c = true) {m : Nat} (hm : m < 256) {i : Nat} {c : Call} (hi : i ≤ 8) :
    iter (H125aL0 Ar.std (eCalls h) (m : Int) c.1 c.2.1 c.2.2.1 c.2.2.2.1 c.2.2.2.2.1 c.2.2.2.2.2) (!m.testBit i, 0) = some (freeM h bef m i c) := by
  have := iter_fold (step := H125aL0 Ar.std (eCalls h) (m : Int) c.1 c.2.1 c.2.2.1 c.2.2.2.1 c.2.2.2.2.1 c.2.2.2.2.2) (List.range h.length) (fun (s : Bool) k => (s, (k : Int))) (fun s k => s && (m.testBit k || (h[k]?.map fun d => !bef d c).getD true)) id
    (fun k j s hj hk => by
      have hkj : k = j := by rw [List.getElem?_range (by simpa using hk)] at hj; exact Option.some.inj hj
      subst hkj
      have hk' : k < h.length := by simpa using hk
      have hd := List.getElem?_eq_getElem hk'
      have hdm := List.getElem_mem hk'
      generalize h[k] = d at hd hdm
      have hto : 0 ≤ d.to := by have := (callOk_iff d).1 (hok d hdm); omega
      simp only [H125aL0, std_zlt, len_enc, ltC hk', cond_true, gt_enc hd, bsome, H124a_eq hm (by omega : k ≤ 8), H66_eq d c hto, std_wrp, std_zadd, wrap1 hk' (by omega), hd, Option.map_some, Option.getD_some]
      cases s <;> cases m.testBit k <;> cases bef d c <;> rfl)
    (fun s => by simp [H125aL0]) (!m.testBit i)
  rw [show ((!m.testBit i, 0) : Bool × Int) = (!m.testBit i, ((0 : Nat) : Int)) from rfl, this, foldl_and]
  rfl
theorem H74_ok (hl : h.length ≤ 8) (hok : ∀ c ∈ h, callOk c = true ∧ callIn S c) : ∀ (n m : Nat) (s : Int × Int) (mp : List (D × D)), room h m < n → m < 256 → stOk S s → GoodM S h bef mp →
    ∃ mp', GoodM S h bef mp' ∧ H74R Ar.std n (m : Int) s.1 s.2 mp (eSpecs S) (eCalls h) = some (((ords S h bef m s).length : Int), mp') := by
  intro n
  induction n with
  | zero => intro m s mp hr; omega
  | succ n ih =>
    intro m s mp hr hm hs hg
    show ∃ mp', GoodM S h bef mp' ∧ H74B Ar.std (H74R Ar.std n) (m : Int) s.1 s.2 mp (eSpecs S) (eCalls h) = some (((ords S h bef m s).length : Int), mp')
    have hmd : ((ords S h bef m s).length : Int) < 1000000000 := by have := ords_lt S h bef hl m s; omega
    unfold H74B
    cases hk : Am.mget mp (keyP m s) with
    | some v =>
      have hv := hg m s v hk
      refine ⟨mp, hg, ?_⟩
      have : lk Ar.std (cI .i64) mp (.agg [.int .u8 (m : Int), .int .i64 s.1, .int .i64 s.2]) = some (some ((ords S h bef m s).length : Int)) := by
        show (Am.mget mp (keyP m s)).elim _ _ = _
        rw [hk, hv]; simp
      rw [this]
      rfl
    | none =>
      have : lk Ar.std (cI .i64) mp (.agg [.int .u8 (m : Int), .int .i64 s.1, .int .i64 s.2]) = some none := by
        show (Am.mget mp (keyP m s)).elim _ _ = _
        rw [hk]; rfl
      rw [this]
      simp only [bsome, Option.elim_none, cond_false, H115a_eq hl hm, cond_some, H116c]
      
      have hloop := iter_rel (step := H125aL1 Ar.std (eSpecs S) (eCalls h) (m : Int) s.1 s.2 (H74R Ar.std n)) h.length (fun (q : List (D × D) × Int) i => ((i : Int), q.1, q.2))
        (fun i q => GoodM S h bef q.1 ∧ q.2 = (bif endsM h m then 1 else 0 : Int) + (((List.range i).map (contr S h bef m s)).sum : Int)) (fun q => (q.1, q.2))
        (fun i q hi hR => by
          obtain ⟨q1, q2⟩ := q
          obtain ⟨hg1, rfl⟩ := hR
          have hc := List.getElem?_eq_getElem hi
          have hcm := List.getElem_mem hi
          generalize h[i] = c at hc hcm
          obtain ⟨hcok, hcin⟩ := hok c hcm
          have hsum : ((List.range (i + 1)).map (contr S h bef m s)).sum = ((List.range i).map (contr S h bef m s)).sum + contr S h bef m s i := by
            rw [List.range_succ, List.map_append, List.sum_append]; simp
          have hle := ords_len S h bef m s
          have hle2 : ((List.range (i + 1)).map (contr S h bef m s)).sum ≤ _ := sum_le (f := contr S h bef m s) hi
          have hlt2 := ords_lt S h bef hl m s
          simp only [H125aL1, std_zlt, len_enc, ltC hi, cond_true, gt_enc hc, bsome, H124a_eq hm (by omega : i ≤ 8), H125aL0_eq hl (fun c hc => (hok c hc).1) hm (by omega : i ≤ 8), std_wrp, std_zadd, wrap1 hi (by omega)]
          cases hf : freeM h bef m i c with
          | false =>
            have h0 : contr S h bef m s i = 0 := by simp [contr, nextM, hc, hf]
            refine ⟨(q1, _), ⟨hg1, by simp only [hsum, h0, Nat.add_zero]⟩, ?_⟩
            simp only [cond_false, bsome]
          | true =>
            have ht : m.testBit i = false := by simp only [freeM, Bool.and_eq_true] at hf; simpa using hf.1
            simp only [cond_true, H78a_eq hcin hs, bsome]
            cases ho : okS S c s with
            | false =>
              have h0 : contr S h bef m s i = 0 := by simp [contr, nextM, hc, ho]
              refine ⟨(q1, _), ⟨hg1, by simp only [hsum, h0, Nat.add_zero]⟩, ?_⟩
              simp only [cond_false, bsome]
            | true =>
              have hn : nextM S h bef m s i = some (ins m i, doS S c s) := by simp [nextM, hc, hf, ho]
              have h0 : contr S h bef m s i = (ords S h bef (ins m i) (doS S c s)).length := by simp [contr, hn]
              have hz : decide ((i : Int) < 0) = false := by simp
              obtain ⟨mp2, hg2, e2⟩ := ih (ins m i) (doS S c s) q1 (by have := room_ins hi ht; omega) (ins_lt (n := 8) hm (by omega)) (doS_ok hcin hs) hg1
              have hins : Ar.std.bits .or .u8 (m : Int) (Ar.std.shl .u8 1 (i : Int)) = ((ins m i : Nat) : Int) := ins_u8 m i hm (by omega)
              refine ⟨(mp2, _), ⟨hg2, rfl⟩, ?_⟩
              simp only [cond_true, hz, nk_false, bsome, hins, e2]
              have hw : IntKind.i64.wrap ((bif endsM h m then 1 else 0 : Int) + (((List.range i).map (contr S h bef m s)).sum : Int) + ((ords S h bef (ins m i) (doS S c s)).length : Int)) = (bif endsM h m then 1 else 0 : Int) + (((List.range (i + 1)).map (contr S h bef m s)).sum : Int) := by
                rw [hsum, h0]
                rw [hsum, h0] at hle2
                cases he : endsM h m <;> simp only [he, cond_true, cond_false] at hle ⊢ <;> (rw [i64w _ (by omega) (by omega)]; omega)
              rw [hw])
        (fun q hR => by simp [H125aL1]) (mp, (bif endsM h m then 1 else 0 : Int)) ⟨hg, by simp⟩
      obtain ⟨q, ⟨hg1, hq2⟩, hit⟩ := hloop
      have htot : q.2 = ((ords S h bef m s).length : Int) := by
        rw [hq2, ords_len]; cases endsM h m <;> simp
      simp only [H125a]
      have hit' : iter (H125aL1 Ar.std (eSpecs S) (eCalls h) (m : Int) s.1 s.2 (H74R Ar.std n)) (0, mp, bif endsM h m then 1 else 0) = some (q.1, q.2) := hit
      rw [hit']
      refine ⟨Am.mput q.1 (keyP m s) (.int .i64 ((ords S h bef m s).length : Int)), hg1.put m s, ?_⟩
      simp only [bsome, htot, std_mput]
      rfl
theorem H74_eq (hl : h.length ≤ 8) (hok : ∀ c ∈ h, callOk c = true ∧ callIn S c) {m : Nat} {s : Int × Int} {mp : List (D × D)} (hm : m < 256) (hs : stOk S s) (hg : GoodM S h bef mp) :
    ∃ mp', GoodM S h bef mp' ∧ H74 Ar.std (m : Int) s.1 s.2 mp (eSpecs S) (eCalls h) = some (((ords S h bef m s).length : Int), mp') := by
  have hr : room h m < fuel := by
    have := List.countP_le_length (p := fun i => !m.testBit i) (l := List.range h.length)
    rw [List.length_range] at this
    rw [fuel_eq]; unfold room; omega
  exact H74_ok hl hok fuel m s mp hr hm hs hg
end
section
variable {S : List Spec} {h : List Call}
end
end Go.Am

set_option maxRecDepth 100000
set_option linter.unusedVariables false
set_option linter.unusedSimpArgs false
namespace Go.Am
open Go
def eNats (l : List Nat) : List D := eInts (l.map (fun i : Nat => (i : Int)))
theorem ap_nat {l : List Nat} {i : Nat} (h : l.length < 4294967295) : ap Ar.std (eNats l) [.int .i64 (i : Int)] = some (eNats (l ++ [i])) := by
  unfold eNats
  have := ap_enc1 (c := cI .i64) (l := l.map (fun i : Nat => (i : Int))) (a := (i : Int)) (d := .int .i64 (i : Int)) rfl (by simpa using h)
  rw [this, List.map_append]
  rfl
theorem flatMap_first {β : Type} {f : Nat → List β} {n i : Nat} (hi : i < n) (h0 : ∀ j, j < i → f j = []) (h1 : f i ≠ []) : ((List.range n).flatMap f).head? = (f i).head? := by
  obtain ⟨k, rfl⟩ : ∃ k, n = i + (1 + k) := ⟨n - i - 1, by omega⟩
  rw [List.range_add, List.flatMap_append]
  have e1 : (List.range i).flatMap f = [] := by
    rw [List.flatMap_eq_nil_iff]; exact fun j hj => h0 j (List.mem_range.1 hj)
  rw [e1, List.nil_append, Nat.add_comm 1 k, List.range_succ_eq_map, List.map_cons, List.flatMap_cons, Nat.add_zero]
  cases hf : f i with
  | nil => exact absurd hf h1
  | cons a l => simp
def kid (S : List Spec) (h : List Call) (must : Call → Call → Bool) (m : Nat) (s : Int × Int) (i : Nat) : List (List Nat) := ((nextM S h must m s i).map fun p => (ords S h must p.1 p.2).map (i :: ·)).getD []
theorem kid_len (S : List Spec) (h : List Call) (must : Call → Call → Bool) (m : Nat) (s : Int × Int) (i : Nat) : (kid S h must m s i).length = contr S h must m s i := by
  unfold kid contr; cases nextM S h must m s i <;> simp
theorem way_step {S : List Spec} {h : List Call} {must : Call → Call → Bool} {m : Nat} {s : Int × Int} (he : endsM h m = false) {i : Nat} (hi : i < h.length) {p : Nat × Int × Int} (hn : nextM S h must m s i = some p)
    (h0 : ∀ j, j < i → contr S h must m s j = 0) (h1 : ords S h must p.1 p.2 ≠ []) : ords S h must m s ≠ [] ∧ way S h must m s = i :: way S h must p.1 p.2 := by
  have hk : kid S h must m s i = (ords S h must p.1 p.2).map (i :: ·) := by simp [kid, hn]
  have hne : kid S h must m s i ≠ [] := by rw [hk]; simpa using h1
  have hh : (ords S h must m s).head? = (kid S h must m s i).head? := by
    rw [ords_eq, he, cond_false, List.nil_append]
    exact flatMap_first (f := kid S h must m s) hi (fun j hj => by have := h0 j hj; rw [← kid_len] at this; exact List.length_eq_zero_iff.1 this) hne
  unfold way
  rw [hh, hk]
  cases ho : ords S h must p.1 p.2 with
  | nil => exact absurd ho h1
  | cons l r =>
    refine ⟨?_, by simp⟩
    intro e
    rw [e, hk, ho] at hh
    simp at hh
section
variable {S : List Spec} {h : List Call}
theorem H125bL0_eq (hl : h.length ≤ 8) (hok : ∀ c ∈ h, callOk c = true) {m : Nat} (hm : m < 256) {i : Nat} {c : Call} (hi : i ≤ 8) :
    iter (H125bL0 Ar.std (eCalls h) (m : Int) c.1 c.2.1 c.2.2.1 c.2.2.2.1 c.2.2.2.2.1 c.2.2.2.2.2) (!m.testBit i, 0) = some (freeM h bef m i c) := H125aL0_eq hl hok hm hi
theorem H125b_ok (hl : h.length ≤ 8) (hok : ∀ c ∈ h, callOk c = true ∧ callIn S c) {m : Nat} {s : Int × Int} {mp : List (D × D)} {out : List Nat} (hm : m < 256) (hs : stOk S s) (hg : GoodM S h bef mp) (ho : out.length < 100)
    (he : endsM h m = false) (hne : ords S h bef m s ≠ []) :
    ∃ i p mp', i < h.length ∧ nextM S h bef m s i = some p ∧ (∀ j, j < i → contr S h bef m s j = 0) ∧ ords S h bef p.1 p.2 ≠ [] ∧ GoodM S h bef mp' ∧
      H125b Ar.std mp (eSpecs S) (eCalls h) (m : Int) s.1 s.2 (eNats out) (m : Int) s.1 s.2 = some (.inr (mp', (p.1 : Int), p.2.1, p.2.2, eNats (out ++ [i]))) := by
  have hloop := iter_relE (step := H125bL1 Ar.std (eSpecs S) (eCalls h) (eNats out) (m : Int) s.1 s.2) h.length (fun (q : List (D × D)) i => ((i : Int), q))
    (fun i q => GoodM S h bef q ∧ ∀ j, j < i → contr S h bef m s j = 0)
    (fun i x => ∃ p mp', x = .inr (mp', (p.1 : Int), p.2.1, p.2.2, eNats (out ++ [i])) ∧ nextM S h bef m s i = some p ∧ (∀ j, j < i → contr S h bef m s j = 0) ∧ ords S h bef p.1 p.2 ≠ [] ∧ GoodM S h bef mp')
    (fun q => .inl q)
    (fun i q hi hR => by
      obtain ⟨hg1, h0⟩ := hR
      have hc := List.getElem?_eq_getElem hi
      have hcm := List.getElem_mem hi
      generalize h[i] = c at hc hcm
      obtain ⟨hcok, hcin⟩ := hok c hcm
      simp only [H125bL1, jn, std_zlt, len_enc, ltC hi, cond_true, gt_enc hc, bsome, H124a_eq hm (by omega : i ≤ 8), H125bL0_eq hl (fun c hc => (hok c hc).1) hm (by omega : i ≤ 8), std_wrp, std_zadd, wrap1 hi (by omega)]
      have goon : contr S h bef m s i = 0 → ∀ j, j < i + 1 → contr S h bef m s j = 0 := fun hz j hj => by
        rcases Nat.lt_or_eq_of_le (Nat.le_of_lt_succ hj) with h | h
        · exact h0 j h
        · rw [h]; exact hz
      cases hf : freeM h bef m i c with
      | false => exact .inl ⟨q, ⟨hg1, goon (by simp [contr, nextM, hc, hf])⟩, by simp only [cond_false]⟩
      | true =>
        have ht : m.testBit i = false := by simp only [freeM, Bool.and_eq_true] at hf; simpa using hf.1
        simp only [cond_true, H78a_eq hcin hs, bsome]
        cases hos : okS S c s with
        | false => exact .inl ⟨q, ⟨hg1, goon (by simp [contr, nextM, hc, hos])⟩, by simp only [cond_false]⟩
        | true =>
          have hn : nextM S h bef m s i = some (ins m i, doS S c s) := by simp [nextM, hc, hf, hos]
          have hc0 : contr S h bef m s i = (ords S h bef (ins m i) (doS S c s)).length := by simp [contr, hn]
          have hz : decide ((i : Int) < 0) = false := by simp
          have hins : Ar.std.bits .or .u8 (m : Int) (Ar.std.shl .u8 1 (i : Int)) = ((ins m i : Nat) : Int) := ins_u8 m i hm (by omega)
          obtain ⟨mp2, hg2, e2⟩ := H74_eq hl hok (m := ins m i) (ins_lt (n := 8) hm (by omega)) (doS_ok hcin hs) hg1
          simp only [cond_true, hz, nk_false, bsome, hins, e2]
          cases hlen : (ords S h bef (ins m i) (doS S c s)).length with
          | zero =>
            refine .inl ⟨mp2, ⟨hg2, goon (by rw [hc0, hlen])⟩, ?_⟩
            simp
          | succ k =>
            refine .inr ⟨_, ⟨(ins m i, doS S c s), mp2, rfl, hn, h0, fun e => (by simp only at e; rw [e] at hlen; cases hlen), hg2⟩, ?_⟩
            have hp : decide (0 < ((k + 1 : Nat) : Int)) = true := decide_eq_true (by omega)
            simp only [hp, cond_true, ap_nat (show out.length < 4294967295 by omega), bsome]
            rfl)
    (fun q hR => by simp [H125bL1]) mp ⟨hg, fun j hj => by omega⟩
  rcases hloop with ⟨q, ⟨_, h0⟩, _⟩ | ⟨i, x, hi, ⟨p, mp', rfl, hn, h0, h1, hg'⟩, hit⟩
  · exfalso
    apply hne
    have hlen := ords_len S h bef m s
    rw [he, cond_false, Nat.zero_add] at hlen
    have : ((List.range h.length).map (contr S h bef m s)).sum = 0 := by
      have hz : (List.range h.length).map (contr S h bef m s) = (List.range h.length).map (fun _ => 0) := List.map_congr_left fun j hj => h0 j (List.mem_range.1 hj)
      rw [hz, List.map_const']; simp
    rw [this] at hlen
    exact List.length_eq_zero_iff.1 hlen
  · refine ⟨i, p, mp', hi, hn, h0, h1, hg', ?_⟩
    have hit' : iter (H125bL1 Ar.std (eSpecs S) (eCalls h) (eNats out) (m : Int) s.1 s.2) (0, mp) = some (.inr (mp', (p.1 : Int), p.2.1, p.2.2, eNats (out ++ [i]))) := hit
    simp only [H125b, hit', bsome, Sum.elim_inr]
theorem first_ok (hl : h.length ≤ 8) (hok : ∀ c ∈ h, callOk c = true ∧ callIn S c) : ∀ (k m : Nat) (s : Int × Int) (mp : List (D × D)) (out : List Nat), room h m ≤ k → out.length + room h m < 100 → m < 256 → stOk S s → GoodM S h bef mp → ords S h bef m s ≠ [] →
    ∃ mp' m' a' b', iter (H92L0 Ar.std (eSpecs S) (eCalls h)) (mp, (m : Int), s.1, s.2, eNats out) = some (mp', m', a', b', eNats (out ++ way S h bef m s)) := by
  intro k
  induction k with
  | zero =>
    intro m s mp out hr ho hm hs hg hne
    cases he : endsM h m with
    | true =>
      have hw : way S h bef m s = [] := by unfold way; rw [ords_eq, he]; rfl
      refine ⟨mp, m, s.1, s.2, iter_inr ?_⟩
      simp only [H92L0, H115a_eq hl hm, he, bsome, cond_true, hw, List.append_nil]
    | false =>
      obtain ⟨i, p, mp', hi, hn, _⟩ := H125b_ok hl hok hm hs hg (out := out) (by omega) he hne
      obtain ⟨c, _, _, ht, _⟩ := nextM_some hn
      have := room_ins hi ht
      omega
  | succ k ih =>
    intro m s mp out hr ho hm hs hg hne
    cases he : endsM h m with
    | true =>
      have hw : way S h bef m s = [] := by unfold way; rw [ords_eq, he]; rfl
      refine ⟨mp, m, s.1, s.2, iter_inr ?_⟩
      simp only [H92L0, H115a_eq hl hm, he, bsome, cond_true, hw, List.append_nil]
    | false =>
      obtain ⟨i, p, mp', hi, hn, h0, h1, hg', e⟩ := H125b_ok hl hok hm hs hg (out := out) (by omega) he hne
      obtain ⟨c, hc, _, ht, _, _, rfl⟩ := nextM_some hn
      have hcm := List.mem_of_getElem? hc
      have hri := room_ins hi ht
      obtain ⟨_, hw⟩ := way_step he hi hn h0 h1
      obtain ⟨mp2, m2, a2, b2, e2⟩ := ih (ins m i) (doS S c s) mp' (out ++ [i]) (by omega) (by simp; omega) (ins_lt (n := 8) hm (by omega)) (doS_ok (hok c hcm).2 hs) hg' h1
      refine ⟨mp2, m2, a2, b2, ?_⟩
      rw [hw, show out ++ i :: way S h bef (ins m i) (doS S c s) = (out ++ [i]) ++ way S h bef (ins m i) (doS S c s) by simp, ← e2]
      refine iter_inl ?_
      simp only [H92L0, H115a_eq hl hm, he, bsome, cond_false, H116d, e, Sum.elim_inr]
theorem H92_eq (hl : h.length ≤ 8) (hok : ∀ c ∈ h, callOk c = true ∧ callIn S c) {m : Nat} {s : Int × Int} {mp : List (D × D)} (hm : m < 256) (hs : stOk S s) (hg : GoodM S h bef mp) :
    ∃ mp', H92 Ar.std (m : Int) s.1 s.2 mp (eSpecs S) (eCalls h) = some (eNats (way S h bef m s), !(ords S h bef m s).isEmpty, mp') := by
  obtain ⟨mp1, hg1, e1⟩ := H74_eq hl hok hm hs hg
  simp only [H92, e1, bsome, std_zeq]
  cases ho : ords S h bef m s with
  | nil => exact ⟨mp1, by simp [way, ho, eNats]⟩
  | cons l r =>
    have hr : room h m ≤ 8 := by
      have := List.countP_le_length (p := fun i => !m.testBit i) (l := List.range h.length)
      unfold room; rw [List.length_range] at this; omega
    obtain ⟨mp2, m2, a2, b2, e2⟩ := first_ok hl hok (room h m) m s mp1 [] (Nat.le_refl _) (by simp; omega) hm hs hg1 (by rw [ho]; simp)
    have hz : decide (((l :: r).length : Int) = 0) = false := by simp; omega
    have e2' : iter (H92L0 Ar.std (eSpecs S) (eCalls h)) (mp1, (m : Int), s.1, s.2, []) = some (mp2, m2, a2, b2, eNats ([] ++ way S h bef m s)) := e2
    exact ⟨mp2, by simp only [hz, cond_false, e2', bsome, List.nil_append]; rfl⟩
end
def ords0 (S : List Spec) (h : List Call) : List (List Nat) := ords S h bef 0 (0, 0)
def orderR (S : List Spec) (h : List Call) : List Nat × Int := bif decide (errH S h = 0) then (match ords0 S h with | [] => ([], 5) | l :: _ => (l, 0)) else ([], errH S h)
theorem errH_zero {S : List Spec} {h : List Call} (he : errH S h = 0) : areS S = true ∧ forH S h = true := by
  unfold errH at he
  cases ha : areS S <;> cases hf : forH S h <;> simp [ha, hf] at he ⊢
theorem H43_eq (S : List Spec) (h : List Call) (hs : SpecsOk S) (hl : h.length < Lg) : H43 Ar.std (eSpecs S) (eCalls h) = some (eNats (orderR S h).1, (orderR S h).2) := by
  simp only [H43, H71_eq S h hs hl, bsome, std_zeq, H72, orderR]
  by_cases he : errH S h = 0
  · obtain ⟨ha, hf⟩ := errH_zero he
    obtain ⟨h8, hok⟩ := forH_in ha hf
    obtain ⟨mp', e⟩ := H92_eq (S := S) (h := h) h8 hok (m := 0) (s := (0, 0)) (mp := []) (by decide) (stOk_zero ha) (GoodM.nil _ _ _)
    have e' : H92 Ar.std 0 0 0 [] (eSpecs S) (eCalls h) = _ := e
    simp only [he, decide_true, cond_true, e', bsome, ords0, way]
    cases ho : ords S h bef 0 (0, 0) with
    | nil => rfl
    | cons l r => rfl
  · simp only [he, decide_false, cond_false]; rfl
theorem H56_eq (l m : List Int) (hl : l.length < Lg) : H56 Ar.std (eInts l) (eInts m) = some (decide (l = m)) := by
  simp only [H56, std_zeq, len_enc]
  by_cases hlen : l.length = m.length
  · have e : iter (H56L0 Ar.std (eInts l) (eInts m)) 0 = some (bif (List.range l.length).any (fun i => decide (l[i]? ≠ m[i]?)) then .inr () else .inl ()) := by
      refine iter_rng l.length _ _ _ (fun i hi => ?_) ?_
      · have hi2 : i < m.length := by omega
        have h1 := List.getElem?_eq_getElem hi
        have h2 := List.getElem?_eq_getElem hi2
        simp only [H56L0, std_zlt, len_enc, ltC hi, cond_true, gt_enc h1, gt_enc h2, bsome, std_zeq, std_wrp, std_zadd, wrap1 hi hl, h1, h2]
        by_cases he : l[i] = m[i] <;> simp [he]
      · simp [H56L0]
    have hc : decide ((l.length : Int) = (m.length : Int)) = true := by simp; omega
    simp only [hc, cond_true, e, bsome]
    by_cases he : l = m
    · subst he; simp
    · have : (List.range l.length).any (fun i => decide (l[i]? ≠ m[i]?)) = true := by
        refine Classical.byContradiction fun hn => he ?_
        rw [Bool.not_eq_true, List.any_eq_false] at hn
        refine List.ext_getElem? fun i => ?_
        rcases Nat.lt_or_ge i l.length with h | h
        · have := hn i (List.mem_range.2 h); simpa using this
        · rw [List.getElem?_eq_none h, List.getElem?_eq_none (by omega)]
      rw [this]; simp [he]
  · have hc : decide ((l.length : Int) = (m.length : Int)) = false := by simp; omega
    have : ¬ l = m := fun e => hlen (by rw [e])
    simp [hc, this]
def qSpec : Spec := (2, 2, [[1, 0], [1, 0]], [[1, 0], [0, 1]])
def qHist : List Call := [(0, 0, 0, 1, 1, 6), (1, 0, 1, 0, 2, 5)]
theorem sane_order : orderR [qSpec] qHist = ([1, 0], 0) := by decide +kernel
theorem H19_eq : H19 Ar.std = some true := by
  have hs : SpecsOk [qSpec] := by
    refine ⟨by decide, fun s hs => ?_⟩
    obtain rfl : s = qSpec := by simpa using hs
    refine ⟨⟨by decide, fun r hr => ?_⟩, ⟨by decide, fun r hr => ?_⟩⟩ <;> simp [qSpec] at hr <;> rcases hr with rfl | rfl <;> decide
  have e := H43_eq [qSpec] qHist hs (by decide)
  rw [sane_order] at e
  have e' : H43 Ar.std [(.agg [(.int .i64 2), (.int .i64 2), (.list 1 [(.list 1 [(.int .i64 1), (.int .i64 0)]), (.list 1 [(.int .i64 1), (.int .i64 0)])]), (.list 1 [(.list 1 [(.int .i64 1), (.int .i64 0)]), (.list 1 [(.int .i64 0), (.int .i64 1)])])])] [(.agg [(.int .i64 0), (.int .i64 0), (.int .i64 0), (.int .i64 1), (.int .i64 1), (.int .i64 6)]), (.agg [(.int .i64 1), (.int .i64 0), (.int .i64 1), (.int .i64 0), (.int .i64 2), (.int .i64 5)])] = some (eInts [1, 0], 0) := e
  have e2 : H56 Ar.std (eInts [1, 0]) [(.int .i64 1), (.int .i64 0)] = some true := by
    have h := H56_eq [1, 0] [1, 0] (by decide)
    rw [decide_eq_true rfl] at h
    exact h
  simp only [H19, e', bsome, std_zeq, decide_true, cond_true, e2]
end Go.Am

set_option maxRecDepth 100000
set_option linter.unusedVariables false
set_option linter.unusedSimpArgs false
namespace Go.Am
open Go
def hc (h : List Call) (x : Int) : Call := h.getD x.toNat (0, 0, 0, 0, 0, 0)
def full (h : List Call) (l : List Int) : Bool := !(List.range h.length).any fun i => (h[i]?.map fun c => decide (c.to ≠ 0) && !l.contains (i : Int)).getD false
section
variable {h : List Call} (hl : h.length ≤ 40)
include hl
end
end Go.Am

set_option maxRecDepth 100000
set_option linter.unusedVariables false
set_option linter.unusedSimpArgs false
namespace Go.Am
open Go
def cN (l : List Nat) : List Int := l.map (fun i : Nat => (i : Int))
@[simp] theorem cN_snoc (l : List Nat) (i : Nat) : cN (l ++ [i]) = cN l ++ [(i : Int)] := by simp [cN]
structure MustOk (must : Call → Call → Bool) (h : List Call) : Prop where
  ret : ∀ c ∈ h, ∀ d ∈ h, must c d = true → 0 < c.to
  irr : ∀ c ∈ h, must c c = false
section
variable {S : List Spec} {h : List Call} {must : Call → Call → Bool}
def dead (must : Call → Call → Bool) (h : List Call) (m : Nat) : Prop := ∃ (k i : Nat) (c d : Call), h[k]? = some c ∧ h[i]? = some d ∧ m.testBit i = true ∧ m.testBit k = false ∧ 0 < c.to ∧ must c d = true
end
end Go.Am

set_option maxRecDepth 100000
set_option linter.unusedVariables false
set_option linter.unusedSimpArgs false
namespace Go.Am
open Go
section
variable (S : List Spec) (h : List Call) (hs : SpecsOk S) (hl : h.length < Lg)
include hs hl
end
end Go.Am

set_option maxRecDepth 100000
set_option linter.unusedVariables false
set_option linter.unusedSimpArgs false
namespace Go.Am
open Go
section
variable {h : List Call}
end
section
variable (S : List Spec) (h : List Call) (hs : SpecsOk S) (hl : h.length < Lg) (l : List Int) (hll : l.length < Lg)
include hl hll
include hs
end
end Go.Am

set_option maxRecDepth 100000
set_option linter.unusedVariables false
set_option linter.unusedSimpArgs false
namespace Go.Am
open Go
section
variable {h : List Call}
theorem pick_loop {step : (List D × Int) → Option ((List D × Int) ⊕ List D)} (hl : h.length ≤ 40) (p : Call → Bool)
    (hs : ∀ i c (l : List Call), h[i]? = some c → i < h.length → l.length ≤ 40 → step (eCalls l, (i : Int)) = some (.inl (eCalls (bif p c then l ++ [c] else l), ((i + 1 : Nat) : Int)))) (he : ∀ l, step (l, (h.length : Int)) = some (.inr l)) :
    iter step ([], 0) = some (eCalls (h.filter p)) := by
  have := iter_pre (step := step) h (fun pre => pre.filter p) (fun l i => (eCalls l, (i : Int))) (fun l => eCalls l)
    (fun i c hc hi => by
      rw [hs i c _ hc hi (Nat.le_trans (List.length_filter_le _ _) (by simp; omega))]
      cases hp : p c <;> simp [List.filter_append, hp]) (he _)
  exact this
def ofR (h : List Call) (o : Int) : List Call × Int := bif validH h then (bif btw 0 o 1 then (h.filter (fun c => decide (c.ob = o)), 0) else ([], 2)) else ([], 20)
def byR (h : List Call) (t : Int) : List Call × Int := bif validH h then (bif btw 0 t 3 then (h.filter (fun c => decide (c.th = t)), 0) else ([], 2)) else ([], 20)
theorem H88a_eq (hl : h.length ≤ 40) (x : List D) (o : Int) : H88a Ar.std (eCalls h) x o = some (eCalls (h.filter (fun c => decide (c.ob = o)))) := by
  have e := pick_loop (h := h) (step := H88aL0 Ar.std (eCalls h) x o) hl (fun c => decide (c.ob = o)) (fun i c l hc hi hll => by
    have hap : ap Ar.std (eCalls l) [.agg [.int .i64 c.1, .int .i64 c.2.1, .int .i64 c.2.2.1, .int .i64 c.2.2.2.1, .int .i64 c.2.2.2.2.1, .int .i64 c.2.2.2.2.2]] = some (eCalls (l ++ [c])) := ap_enc1 rfl (by omega)
    simp only [H88aL0, H89, std_zlt, std_zeq, len_enc, ltC hi, cond_true, gt_enc hc, bsome, hap, std_wrp, std_zadd, wrap1 hi (show h.length < 9223372036854775808 by omega), Call.ob]
    cases decide (c.2.1 = o) <;> rfl) (fun l => by simp [H88aL0])
  simp only [H88a, e, bsome]
theorem H40_eq (hl : h.length < Lg) (o : Int) : H40 Ar.std (eCalls h) o = some (eCalls (ofR h o).1, (ofR h o).2) := by
  simp only [H40, H85, H24_eq h hl, bsome, ofR, H86, H77_eq, H87]
  cases hv : validH h with
  | false => rfl
  | true =>
    obtain ⟨h8, _⟩ := validH_ok hv
    simp only [cond_true, H88a_eq (show h.length ≤ 40 by omega), bsome]
    cases btw 0 o 1 <;> rfl
end
end Go.Am

set_option maxRecDepth 100000
set_option linter.unusedVariables false
set_option linter.unusedSimpArgs false
namespace Go.Am
open Go
section
variable (S : List Spec) (h : List Call) (must : Call → Call → Bool)
end
section
variable {S : List Spec} {h : List Call} {must : Call → Call → Bool}
end
end Go.Am

set_option maxRecDepth 100000
set_option linter.unusedVariables false
set_option linter.unusedSimpArgs false
namespace Go.Am
open Go
section
variable {S : List Spec} {h : List Call} {must : Call → Call → Bool}
end
end Go.Am

set_option maxRecDepth 100000
set_option linter.unusedVariables false
set_option linter.unusedSimpArgs false
namespace Go.Am
open Go
theorem cCall_cells (c d : Call) : ([D.int .i64 c.1, .int .i64 c.2.1, .int .i64 c.2.2.1, .int .i64 c.2.2.2.1, .int .i64 c.2.2.2.2.1, .int .i64 c.2.2.2.2.2] = [D.int .i64 d.1, .int .i64 d.2.1, .int .i64 d.2.2.1, .int .i64 d.2.2.2.1, .int .i64 d.2.2.2.2.1, .int .i64 d.2.2.2.2.2]) ↔ c = d := by
  obtain ⟨a, b, c, e, f, g⟩ := c
  obtain ⟨a', b', c', e', f', g'⟩ := d
  simp
theorem H34_eq (l m : List Call) (hl : l.length < Lg) : H34 Ar.std (eCalls l) (eCalls m) = some (decide (l = m)) := by
  simp only [H34, std_zeq, len_enc]
  by_cases hlen : l.length = m.length
  · have e : iter (H34L0 Ar.std (eCalls l) (eCalls m)) 0 = some (bif (List.range l.length).any (fun i => decide (l[i]? ≠ m[i]?)) then .inr () else .inl ()) := by
      refine iter_rng l.length _ _ _ (fun i hi => ?_) ?_
      · have hi2 : i < m.length := by omega
        have h1 := List.getElem?_eq_getElem hi
        have h2 := List.getElem?_eq_getElem hi2
        generalize l[i] = c at h1
        generalize m[i] = d at h2
        have hd : (∀ {inst : Decidable ([D.int .i64 c.1, .int .i64 c.2.1, .int .i64 c.2.2.1, .int .i64 c.2.2.2.1, .int .i64 c.2.2.2.2.1, .int .i64 c.2.2.2.2.2] = [D.int .i64 d.1, .int .i64 d.2.1, .int .i64 d.2.2.1, .int .i64 d.2.2.2.1, .int .i64 d.2.2.2.2.1, .int .i64 d.2.2.2.2.2])}, @decide _ inst = decide (c = d)) := by
          intro inst
          rw [decide_eq_decide]; exact cCall_cells c d
        simp only [H34L0, std_zlt, len_enc, ltC hi, cond_true, gt_enc h1, gt_enc h2, bsome, std_deq, hd, std_wrp, std_zadd, wrap1 hi hl, h1, h2]
        by_cases he : c = d
        · subst he; simp
        · simp [he]
      · simp [H34L0]
    have hc : decide ((l.length : Int) = (m.length : Int)) = true := decide_eq_true (by omega)
    simp only [hc, cond_true, e, bsome]
    by_cases he : l = m
    · subst he; simp
    · have : (List.range l.length).any (fun i => decide (l[i]? ≠ m[i]?)) = true := by
        refine Classical.byContradiction fun hn => he ?_
        rw [Bool.not_eq_true, List.any_eq_false] at hn
        refine List.ext_getElem? fun i => ?_
        rcases Nat.lt_or_ge i l.length with h | h
        · have := hn i (List.mem_range.2 h); simpa using this
        · rw [List.getElem?_eq_none h, List.getElem?_eq_none (by omega)]
      rw [this]; simp [he]
  · have hc : decide ((l.length : Int) = (m.length : Int)) = false := decide_eq_false (by omega)
    have : ¬ l = m := fun e => hlen (by rw [e])
    simp [hc, this]
def playOk (S : List Spec) (c : Call) : Bool := decide (c.sa = 0) && (decide (c.fr = 0) && (decide (c.to = 0) && (btw 0 c.ob ((S.length : Int) - 1) && (btw 0 c.op ((spOf S c).2.1 - 1) && btw 0 c.th 3))))
section
variable (S : List Spec) (w : List Call) (hs : SpecsOk S) (hw : w.length < Lg)
include hs hw
end
end Go.Am
namespace Go.Am
section
variable (S : List Spec) (w : List Call) (hs : SpecsOk S) (hw : w.length < Lg)
include hs hw
end
end Go.Am

set_option maxRecDepth 100000
set_option linter.unusedVariables false
set_option linter.unusedSimpArgs false
namespace Go.Am
open Go
section
variable {S : List Spec}
section
variable {w : List Call} (ha : areS S = true) (h8 : w.length ≤ 8) (hp : w.all (playOk S) = true)
include ha h8 hp
end
end
end Go.Am

set_option maxRecDepth 100000
set_option linter.unusedVariables false
set_option linter.unusedSimpArgs false
namespace Go.Am
open Go
def alw (S : List Spec) : List Call → Int × Int → Bool
  | [], _ => true
  | c :: L, s => okS S c s && alw S L (doS S c s)
structure LinC (S : List Spec) (h L : List Call) : Prop where
  nd : L.Nodup
  sub : ∀ c ∈ L, c ∈ h
  full : ∀ c ∈ h, c.to ≠ 0 → c ∈ L
  keep : L.Pairwise fun y x => bef x y = false
  allow : alw S L (0, 0) = true
end Go.Am

set_option maxRecDepth 100000
set_option linter.unusedVariables false
set_option linter.unusedSimpArgs false
set_option linter.unusedSectionVars false
namespace Go.Am
open Go
section
variable {τ ρ : Type} {c : Cod τ} {l : List D}
end
end Go.Am

set_option maxRecDepth 100000
set_option linter.unusedVariables false
set_option linter.unusedSimpArgs false
set_option linter.unusedSectionVars false
namespace Go.Am
open Go
theorem scalCalls (h : List Call) : scalars (eCalls h) = true := by
  simp only [scalars, eCalls, enc, List.all_map, List.all_eq_true]
  intro c _
  rfl
theorem fzC (h : List Call) (n : Int) (hn : n = (h.length : Int)) : fz Ar.std (eCalls h) 0 n = some (eCalls h) := by
  subst hn
  have : (eCalls h).take h.length = eCalls h := by rw [List.take_of_length_le (by simp)]
  simp [fz, this]
theorem setC (h : List Call) (i : Nat) (x y z u v w : Int) : Ar.std.lset (eCalls h) i (.agg [(.int .i64 x), (.int .i64 y), (.int .i64 z), (.int .i64 u), (.int .i64 v), (.int .i64 w)]) = eCalls (h.set i (x, y, z, u, v, w)) := enc_set (c := cCall) h i (x, y, z, u, v, w)
section
variable {h : List Call} (hl : h.length < Lg) {i b e : Int}
include hl
end
end Go.Am

set_option maxRecDepth 100000
set_option linter.unusedVariables false
set_option linter.unusedSimpArgs false
set_option linter.unusedSectionVars false
namespace Go.Am
open Go
def cutC (m : Int) (c : Call) : Call := bif decide (m < c.to) then (c.1, c.2.1, c.2.2.1, 0, c.2.2.2.2.1, 0) else c
def untH (h : List Call) (m : Int) : List Call := (h.filter fun c => decide (c.fr ≤ m)).map (cutC m)
def untR (h : List Call) (m : Int) : List Call × Int := bif validH h then (bif btw 0 m 100 then (untH h m, 0) else ([], 2)) else ([], 20)
def midL {α : Type} (f : α → α) (l : List α) (i : Nat) : List α := (l.take i).map f ++ l.drop i
theorem midL_get {α : Type} (f : α → α) {l : List α} {i : Nat} {a : α} (h : l[i]? = some a) : (midL f l i)[i]? = some a := by
  have hi : i < l.length := by rw [List.getElem?_eq_some_iff] at h; exact h.1
  unfold midL
  rw [List.getElem?_append_right (by simp; omega)]
  have : i - ((l.take i).map f).length = 0 := by simp; omega
  rw [this, List.getElem?_drop]; simpa using h
theorem midL_step {α : Type} (f : α → α) {l : List α} {i : Nat} {a : α} (h : l[i]? = some a) : midL f l (i + 1) = (l.take i).map f ++ f a :: l.drop (i + 1) := by
  unfold midL
  rw [take_succ_get h, List.map_append]; simp
theorem midL_drop {α : Type} (f : α → α) {l : List α} {i : Nat} {a : α} (h : l[i]? = some a) : midL f l i = (l.take i).map f ++ a :: l.drop (i + 1) := by
  have hi : i < l.length := by rw [List.getElem?_eq_some_iff] at h; exact h.1
  have ha : l[i] = a := by rw [List.getElem?_eq_some_iff] at h; exact h.2
  unfold midL
  rw [List.drop_eq_getElem_cons hi, ha]
theorem midL_set {α : Type} (f : α → α) {l : List α} {i : Nat} {a : α} (h : l[i]? = some a) (b : α) : (midL f l i).set i b = (l.take i).map f ++ b :: l.drop (i + 1) := by
  have hi : i < l.length := by rw [List.getElem?_eq_some_iff] at h; exact h.1
  rw [midL_drop f h, List.set_append_right _ _ (by simp; omega)]
  have : i - ((l.take i).map f).length = 0 := by simp; omega
  rw [this]; rfl
theorem midL_len {α : Type} (f : α → α) (l : List α) (i : Nat) : (midL f l i).length = l.length := by unfold midL; simp; omega
theorem midL_zero {α : Type} (f : α → α) (l : List α) : midL f l 0 = l := by simp [midL]
theorem midL_end {α : Type} (f : α → α) (l : List α) : midL f l l.length = l.map f := by simp [midL]
section
variable {h : List Call}
theorem H88c_eq (hl : h.length ≤ 40) (x : List D) (o : Int) : H88c Ar.std (eCalls h) x o = some (eCalls (h.filter (fun c => decide (c.th = o)))) := by
  have e := pick_loop (h := h) (step := H88cL0 Ar.std (eCalls h) x o) hl (fun c => decide (c.th = o)) (fun i c l hc hi hll => by
    have hap : ap Ar.std (eCalls l) [.agg [.int .i64 c.1, .int .i64 c.2.1, .int .i64 c.2.2.1, .int .i64 c.2.2.2.1, .int .i64 c.2.2.2.2.1, .int .i64 c.2.2.2.2.2]] = some (eCalls (l ++ [c])) := ap_enc1 rfl (by omega)
    simp only [H88cL0, H104, std_zlt, std_zeq, len_enc, ltC hi, cond_true, gt_enc hc, bsome, hap, std_wrp, std_zadd, wrap1 hi (show h.length < 9223372036854775808 by omega), Call.th]
    cases decide (c.1 = o) <;> rfl) (fun l => by simp [H88cL0])
  simp only [H88c, e, bsome]
theorem H48_eq (hl : h.length < Lg) (o : Int) : H48 Ar.std (eCalls h) o = some (eCalls (byR h o).1, (byR h o).2) := by
  simp only [H48, H85b, H24_eq h hl, bsome, byR, H102, H77_eq, H103]
  cases hv : validH h with
  | false => rfl
  | true =>
    obtain ⟨h8, _⟩ := validH_ok hv
    simp only [cond_true, H88c_eq (show h.length ≤ 40 by omega), bsome]
    cases btw 0 o 3 <;> rfl
theorem H47L0_eq (hl : h.length ≤ 40) (o : Int) : iter (H47L0 Ar.std (eCalls h) o) ([], 0) = some (eCalls (h.filter (fun c => decide (c.ob = o)))) :=
  pick_loop (h := h) (step := H47L0 Ar.std (eCalls h) o) hl (fun c => decide (c.ob = o)) (fun i c l hc hi hll => by
    have hap : ap Ar.std (eCalls l) [.agg [.int .i64 c.1, .int .i64 c.2.1, .int .i64 c.2.2.1, .int .i64 c.2.2.2.1, .int .i64 c.2.2.2.2.1, .int .i64 c.2.2.2.2.2]] = some (eCalls (l ++ [c])) := ap_enc1 rfl (by omega)
    simp only [H47L0, std_zlt, std_zeq, len_enc, ltC hi, cond_true, gt_enc hc, bsome, hap, std_wrp, std_zadd, wrap1 hi (show h.length < 9223372036854775808 by omega), Call.ob]
    cases decide (c.2.1 = o) <;> rfl) (fun l => by simp [H47L0])
theorem H47_eq (hl : h.length < Lg) (o : Int) : H47 Ar.std (eCalls h) o = some (eCalls (ofR h o).1, (ofR h o).2) := by
  simp only [H47, H25_eq h hl, bsome, ofR, H67_eq]
  cases hv : validH h with
  | false => rfl
  | true =>
    obtain ⟨h8, _⟩ := validH_ok hv
    simp only [cond_true, H47L0_eq (show h.length ≤ 40 by omega), bsome]
    cases btw 0 o 1 <;> rfl
theorem H49L0_eq (hl : h.length ≤ 40) (o : Int) : iter (H49L0 Ar.std (eCalls h) o) ([], 0) = some (eCalls (h.filter (fun c => decide (c.th = o)))) :=
  pick_loop (h := h) (step := H49L0 Ar.std (eCalls h) o) hl (fun c => decide (c.th = o)) (fun i c l hc hi hll => by
    have hap : ap Ar.std (eCalls l) [.agg [.int .i64 c.1, .int .i64 c.2.1, .int .i64 c.2.2.1, .int .i64 c.2.2.2.1, .int .i64 c.2.2.2.2.1, .int .i64 c.2.2.2.2.2]] = some (eCalls (l ++ [c])) := ap_enc1 rfl (by omega)
    simp only [H49L0, std_zlt, std_zeq, len_enc, ltC hi, cond_true, gt_enc hc, bsome, hap, std_wrp, std_zadd, wrap1 hi (show h.length < 9223372036854775808 by omega), Call.th]
    cases decide (c.1 = o) <;> rfl) (fun l => by simp [H49L0])
theorem H49_eq (hl : h.length < Lg) (o : Int) : H49 Ar.std (eCalls h) o = some (eCalls (byR h o).1, (byR h o).2) := by
  simp only [H49, H25_eq h hl, bsome, byR, H67_eq]
  cases hv : validH h with
  | false => rfl
  | true =>
    obtain ⟨h8, _⟩ := validH_ok hv
    simp only [cond_true, H49L0_eq (show h.length ≤ 40 by omega), bsome]
    cases btw 0 o 3 <;> rfl
theorem H88b_eq (hl : h.length ≤ 40) (m : Int) : H88b Ar.std (eCalls h) m = some (eCalls (h.filter (fun c => decide (c.fr ≤ m)))) := by
  have e := pick_loop (h := h) (step := H88bL0 Ar.std (eCalls h) m) hl (fun c => decide (c.fr ≤ m)) (fun i c l hc hi hll => by
    have hap : ap Ar.std (eCalls l) [.agg [.int .i64 c.1, .int .i64 c.2.1, .int .i64 c.2.2.1, .int .i64 c.2.2.2.1, .int .i64 c.2.2.2.2.1, .int .i64 c.2.2.2.2.2]] = some (eCalls (l ++ [c])) := ap_enc1 rfl (by omega)
    simp only [H88bL0, H98, std_zlt, std_zle, len_enc, ltC hi, cond_true, gt_enc hc, bsome, hap, std_wrp, std_zadd, wrap1 hi (show h.length < 9223372036854775808 by omega), Call.fr]
    cases decide (c.2.2.2.2.1 ≤ m) <;> rfl) (fun l => by simp [H88bL0])
  simp only [H88b, e, bsome]
theorem H97L0_eq (hl : h.length < Lg) (m : Int) : iter (H97L0 Ar.std m (eCalls h)) (0, eCalls h) = some (eCalls (h.map (cutC m))) := by
  have key := iter_to (step := H97L0 Ar.std m (eCalls h)) h.length (fun i => ((i : Int), eCalls (midL (cutC m) h i))) (eCalls (midL (cutC m) h h.length)) (fun i hi => by
    have hc := List.getElem?_eq_getElem hi
    generalize h[i] = c at hc
    have e1 : ck (Ar.std.zle 0 (i : Int)) = some () := by simp [ck]
    have e2 : ck (Ar.std.zlt (i : Int) (Ar.std.len (eCalls h))) = some () := by rw [std_zlt, len_enc, ltC hi]; rfl
    have e3 : Ar.std.nat (Ar.std.zadd 0 (i : Int)) = i := by simp
    have e4 : gc Ar.std cCall (eCalls (midL (cutC m) h i)) i = some c := gc_enc (midL_get _ hc)
    have e5 : ∀ x : Call, gc Ar.std cCall (eCalls ((midL (cutC m) h i).set i x)) i = some x := fun x => gc_enc (by
      rw [List.getElem?_set]; simp [midL_len, hi])
    have e6 : Ar.std.zlt (i : Int) (Ar.std.len (eCalls h)) = true := by rw [std_zlt, len_enc, ltC hi]
    unfold H97L0
    dsimp only
    rw [e6, cond_true, e1, bsome, ck_true, bsome, e3, e4, bsome, std_zlt]
    cases hd : decide (m < c.to) with
    | false =>
      have hcut : cutC m c = c := by unfold cutC; rw [hd]; rfl
      have hm : midL (cutC m) h (i + 1) = midL (cutC m) h i := by rw [midL_step _ hc, midL_drop _ hc, hcut]
      rw [cond_false, bsome, std_wrp, std_zadd, wrap1 hi hl, hm]
    | true =>
      have hcut : cutC m c = (c.1, c.2.1, c.2.2.1, 0, c.2.2.2.2.1, 0) := by unfold cutC; rw [hd]; rfl
      rw [cond_true, bsome, setC, e5, bsome]
      dsimp only
      rw [setC, List.set_set, bsome, std_wrp, std_zadd, wrap1 hi hl, midL_set _ hc, midL_step _ hc, hcut])
    (by simp [H97L0])
  rw [midL_end] at key
  have h0 : midL (cutC m) h 0 = h := midL_zero _ _
  simp only [h0] at key
  exact key
theorem H97_eq (hl : h.length ≤ 40) (m : Int) : H97 Ar.std (eCalls h) m = some (eCalls (untH h m)) := by
  unfold H97 untH
  rw [H88b_eq hl, bsome]
  generalize hr : h.filter (fun c => decide (c.fr ≤ m)) = r
  have hrl : r.length ≤ 40 := by rw [← hr]; exact Nat.le_trans (List.length_filter_le _ _) hl
  cases h0 : Ar.std.zlt 0 (Ar.std.len (eCalls r)) with
  | false =>
    have : r = [] := by simp at h0; exact h0
    subst this
    rw [cond_false]
    have : iter (H97L1 Ar.std m (eCalls [])) 0 = some () := iter_inr rfl
    rw [this]; rfl
  | true =>
    rw [cond_true, scalCalls, ck_true, bsome, H97L0_eq (by show r.length < 9223372036854775808; omega), bsome, len_enc]
    rw [fzC _ _ (by simp), bsome]
theorem H45_eq (hl : h.length < Lg) (m : Int) : H45 Ar.std (eCalls h) m = some (eCalls (untR h m).1, (untR h m).2) := by
  simp only [H45, H85a, H24_eq h hl, bsome, untR, H96, H77_eq]
  cases hv : validH h with
  | false => rfl
  | true =>
    obtain ⟨h8, _⟩ := validH_ok hv
    simp only [cond_true, H97_eq (show h.length ≤ 40 by omega), bsome]
    cases btw 0 m 100 <;> rfl
theorem H50L0_eq (hl : h.length ≤ 40) (m : Int) : iter (H50L0 Ar.std (eCalls h) m) ([], 0) = some (eCalls (untH h m)) := by
  have := iter_pre (step := H50L0 Ar.std (eCalls h) m) h (fun l => untH l m) (fun l i => (eCalls l, (i : Int))) (fun l => eCalls l)
    (fun i c hc hi => by
      have hle : (untH (h.take i) m).length ≤ 40 := by
        unfold untH
        rw [List.length_map]
        exact Nat.le_trans (List.length_filter_le _ _) (by simp; omega)
      have hun : untH (h.take i ++ [c]) m = bif decide (c.fr ≤ m) then untH (h.take i) m ++ [cutC m c] else untH (h.take i) m := by
        unfold untH
        rw [List.filter_append, List.map_append]
        cases hd : decide (c.fr ≤ m) <;> simp [hd]
      have hlg : h.length < 9223372036854775808 := by omega
      unfold H50L0
      dsimp only
      rw [std_zlt, len_enc, ltC hi, cond_true, gt_enc hc, bsome, hun]
      simp only [std_zlt, std_wrp, std_zadd, wrap1 hi hlg]
      by_cases hf : c.fr ≤ m
      · have d1 : decide (m < c.2.2.2.2.1) = false := by simp; exact hf
        have d2 : decide (c.fr ≤ m) = true := decide_eq_true hf
        rw [d1, d2, cond_false, cond_true]
        cases hd : decide (m < c.to) with
        | true =>
          have hcut : cutC m c = (c.1, c.2.1, c.2.2.1, 0, c.2.2.2.2.1, 0) := by unfold cutC; rw [hd]; rfl
          have hap : ap Ar.std (eCalls (untH (h.take i) m)) [.agg [.int .i64 c.1, .int .i64 c.2.1, .int .i64 c.2.2.1, .int .i64 0, .int .i64 c.2.2.2.2.1, .int .i64 0]] = some (eCalls (untH (h.take i) m ++ [cutC m c])) := by rw [hcut]; exact ap_enc1 rfl (by omega)
          rw [cond_true, bsome]
          dsimp only
          rw [hap, bsome, bsome]
        | false =>
          have hcut : cutC m c = c := by unfold cutC; rw [hd]; rfl
          have hap : ap Ar.std (eCalls (untH (h.take i) m)) [.agg [.int .i64 c.1, .int .i64 c.2.1, .int .i64 c.2.2.1, .int .i64 c.2.2.2.1, .int .i64 c.2.2.2.2.1, .int .i64 c.2.2.2.2.2]] = some (eCalls (untH (h.take i) m ++ [cutC m c])) := by rw [hcut]; exact ap_enc1 rfl (by omega)
          rw [cond_false, bsome]
          dsimp only
          rw [hap, bsome, bsome]
      · have d1 : decide (m < c.2.2.2.2.1) = true := by simp; simp only [Call.fr] at hf; omega
        have d2 : decide (c.fr ≤ m) = false := decide_eq_false hf
        rw [d1, d2, cond_true, cond_false, bsome])
    (by
      have hge : Ar.std.zlt (h.length : Int) (Ar.std.len (eCalls h)) = false := by rw [std_zlt, len_enc, decide_eq_false (by omega)]
      unfold H50L0
      dsimp only
      rw [hge, cond_false])
  exact this
theorem H50_eq (hl : h.length < Lg) (m : Int) : H50 Ar.std (eCalls h) m = some (eCalls (untR h m).1, (untR h m).2) := by
  simp only [H50, H25_eq h hl, bsome, untR, H67_eq]
  cases hv : validH h with
  | false => rfl
  | true =>
    obtain ⟨h8, _⟩ := validH_ok hv
    simp only [cond_true, H50L0_eq (show h.length ≤ 40 by omega), bsome]
    cases btw 0 m 100 <;> rfl
theorem H34_self {l : List Call} (hl : l.length < Lg) : H34 Ar.std (eCalls l) (eCalls l) = some true := by
  rw [H34_eq l l hl, decide_eq_true rfl]
theorem ofR_len (hl : h.length < Lg) (o : Int) : (ofR h o).1.length < Lg := by
  unfold ofR
  have : (h.filter fun c => decide (c.ob = o)).length < Lg := Nat.lt_of_le_of_lt (List.length_filter_le _ _) hl
  cases validH h <;> cases btw 0 o 1 <;> first | exact this | exact (by decide : (0 : Nat) < Lg)
theorem byR_len (hl : h.length < Lg) (o : Int) : (byR h o).1.length < Lg := by
  unfold byR
  have : (h.filter fun c => decide (c.th = o)).length < Lg := Nat.lt_of_le_of_lt (List.length_filter_le _ _) hl
  cases validH h <;> cases btw 0 o 3 <;> first | exact this | exact (by decide : (0 : Nat) < Lg)
theorem untR_len (hl : h.length < Lg) (o : Int) : (untR h o).1.length < Lg := by
  unfold untR untH
  have : ((h.filter fun c => decide (c.fr ≤ o)).map (cutC o)).length < Lg := by rw [List.length_map]; exact Nat.lt_of_le_of_lt (List.length_filter_le _ _) hl
  cases validH h <;> cases btw 0 o 100 <;> first | exact this | exact (by decide : (0 : Nat) < Lg)
theorem H10_ok (hl : h.length < Lg) (o m : Int) : H10 Ar.std (eCalls h) o m = some true := by
  simp only [H10, H18_eq, H19_eq, bsome, H40_eq hl, H47_eq hl, H34_self (ofR_len hl o), H48_eq hl, H49_eq hl, H34_self (byR_len hl o), H45_eq hl, H50_eq hl, H34_self (untR_len hl m), std_zeq, decide_true, cond_true, Bool.not_true, cond_false, cond_some]
  cases decide (40 < (h.length : Int)) <;> rfl
end
end Go.Am
