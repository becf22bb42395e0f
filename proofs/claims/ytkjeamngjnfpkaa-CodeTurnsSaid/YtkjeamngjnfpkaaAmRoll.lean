/- Own text: AmRoll. -/
import Derived.Test.YtkjeamngjnfpkaaAmLaw
import Derived.CallsIn
import Derived.Lib.BitFns
set_option linter.unusedSimpArgs false
namespace Go.Am
open Go
end Go.Am

namespace Go.Am
open Go
section
variable {τ : Type}
def ltF (f : τ → τ → Option Int) (x y : τ) : Bool := match f x y with
 | some r => decide (r < 0)
 | none => false
structure CmpOk (f : τ → τ → Option Int) (xs : List τ) : Prop where
 some : ∀ x ∈ xs, ∀ y ∈ xs, ∃ r, f x y = some r
 irr : ∀ x ∈ xs, ltF f x x = false
 tr : ∀ x ∈ xs, ∀ y ∈ xs, ∀ z ∈ xs, ltF f x y = true → ltF f y z = true → ltF f x z = true
 tot : ∀ x ∈ xs, ∀ y ∈ xs, ltF f x y = false → ltF f y x = false → x = y
theorem CmpOk.ntr {f : τ → τ → Option Int} {xs : List τ} (h : CmpOk f xs) : ∀ x ∈ xs, ∀ y ∈ xs, ∀ z ∈ xs, ltF f x y = false → ltF f y z = false → ltF f x z = false := by
 intro x hx y hy z hz h1 h2
 cases h3 : ltF f x z with
 | false => rfl
 | true =>
   cases h4 : ltF f y x with
   | false => rw [h.tot x hx y hy h1 h4] at h3; rw [h3] at h2; cases h2
   | true => rw [h.tr y hy x hx z hz h4 h3] at h2; cases h2
open Classical in
noncomputable def srt (c : Cod τ) (f : τ → τ → Option Int) (lo n : Int) (l : List D) : Option (List D) :=
 if h : lo = 0 ∧ n = (l.length : Int) ∧ n < 4611686018427387904 ∧ ∃ xs : List τ, l = xs.map c.en ∧ CmpOk f xs then some ((h.2.2.2.choose.mergeSort fun x y => !ltF f y x).map c.en) else none
theorem Cod.inj (c : Cod τ) {x y : τ} (h : c.en x = c.en y) : x = y := by
 have := c.ko x
 rw [h, c.ko] at this
 exact (Option.some.inj this).symm
theorem Cod.map_inj (c : Cod τ) : ∀ {xs ys : List τ}, xs.map c.en = ys.map c.en → xs = ys
 | [], [], _ => rfl
 | [], _ :: _, h => by simp at h
 | _ :: _, [], h => by simp at h
 | x :: xs, y :: ys, h => by
   simp at h
   rw [c.inj h.1, Cod.map_inj c (xs := xs) (ys := ys) (by simpa using h.2)]
theorem srt_eq {c : Cod τ} {f : τ → τ → Option Int} {n : Int} {xs : List τ} (hn : n = (xs.length : Int)) (hs : n < 4611686018427387904) (h : CmpOk f xs) : srt c f 0 n (xs.map c.en) = some ((xs.mergeSort fun x y => !ltF f y x).map c.en) := by
 have hh : (0 : Int) = 0 ∧ n = ((xs.map c.en).length : Int) ∧ n < 4611686018427387904 ∧ ∃ ys : List τ, xs.map c.en = ys.map c.en ∧ CmpOk f ys := ⟨rfl, by simpa using hn, hs, xs, rfl, h⟩
 unfold srt
 rw [dif_pos hh]
 have := hh.2.2.2.choose_spec.1
 rw [← c.map_inj this]
theorem srtI {c : Cod τ} {f : τ → τ → Option Int} {lo n : Int} {l l' : List D} (h : srt c f lo n l = some l') : lo = 0 ∧ n = (l.length : Int) ∧ n < 4611686018427387904 ∧ ∃ xs : List τ, l = xs.map c.en ∧ CmpOk f xs ∧ l' = (xs.mergeSort fun x y => !ltF f y x).map c.en := by
 unfold srt at h
 split at h
 ·rename_i hh
  have hc := hh.2.2.2.choose_spec
  generalize hh.2.2.2.choose = xs at h hc
  exact ⟨hh.1, hh.2.1, hh.2.2.1, xs, hc.1, hc.2, (Option.some.inj h).symm⟩
 ·cases h
end
end Go.Am

set_option linter.unusedSimpArgs false
namespace Go.Am
open Go
variable {P : Program} {T : Types} {A : Ar} {m : Nat} {ops : Array Oper} {σ σ1 : St} {o : Oper} {i : Nat} {K : St → Prop} {l rest : List Oper} {xs xs1 : List Rec}
end Go.Am

set_option linter.unusedSimpArgs false
namespace Go.Am
open Go
variable {P : Program} {m : Nat} {Q : Exit → St → Prop} {σ : St} {c : Code}
theorem RelH.freezeP {G : Gh} {H : List Obj} {w : World} {c : Loc} (R : RelH G H w) {i k : Nat} {lo n : Int} {l : List D} {v : Value} (hrep : RepV G w c (.mref i k lo n) v) (hi : H[i]? = some (.arr k l)) (hfit : lo + n ≤ l.length) :
  ∃ G', RelH G' (H.set i .dead) w ∧ RepD G'.K (.list k (Ar.std.sub l lo (lo + n))) v ∧ (∀ m, Ext m G w G' w) ∧ Pres G G' w w (fun x => x ≠ .o i) ∧ G'.β = G.β := by
 cases hrep with | mref _ _ _ _ _ b off cap hnh hlo hn hcap hbo =>
 obtain ⟨vs, e, hO, hw, hu, hsz, h1, hh⟩ := R.objs i _ hi
 have hil : i < H.length := (List.getElem?_eq_some_iff.1 hi).1
 have hfl := flat_length hu
 let B := G.β (.o i)
 let G' : Gh := { G with K := fun x => if x.block = B ∧ x.spot = none ∧ x.off < (D.flat l).length then some (vs.getD x.off Go.undef) else G.K x, O := fun x => if x = B then none else G.O x }
 have hdisj := R.disj _ _ _ hO
 have hKle : KLe G.K G'.K := by
  intro x v h
  simp only [G']
  rw [if_neg]; exact h
  rintro ⟨hb, hsp, _⟩
  obtain ⟨xb, xo, xs⟩ := x
  simp at hb hsp; subst hb hsp
  rw [hdisj.2 xo (Nat.zero_le _)] at h; cases h
 have hOold : ∀ b' x f', x ≠ .o i → G.O b' = some (x, f') → G'.O b' = some (x, f') := by
  intro b' x f' hx h
  have : b' ≠ B := by rintro rfl; rw [show G.O B = _ from hO] at h; simp at h; exact hx h.1.symm
  simp only [G']; rw [if_neg this]; exact h
 have hpr : Pres G G' w w (fun x => x ≠ .o i) :=
  ⟨hKle, fun b' x f' hx h => ⟨hOold b' x f' hx h, rfl⟩, fun _ _ => rfl, Nat.le_refl _⟩
 have hkept : ∀ x v, G'.K x = some v → w.cell? x = some v := by
  intro x v h
  simp only [G'] at h
  split at h
  ·rename_i hc
   obtain ⟨xb, xo, xs⟩ := x
   obtain ⟨h1', h2', h3'⟩ := hc
   simp at h1' h2' h3' h
   subst h1' h2'
   rw [cell_at hw (by omega)]
   simpa using h
  ·exact R.kept x v h
 obtain ⟨LO, rfl⟩ := Int.eq_ofNat_of_zero_le hlo
 obtain ⟨N, rfl⟩ := Int.eq_ofNat_of_zero_le hn
 have hsubl : Ar.std.sub l LO (LO + N) = (l.drop LO).take N := by
  simp only [Ar.std]
  congr 1
  all_goals omega
 have hlist' : RepD G'.K (.list k ((l.drop LO).take N)) (.slice (some ⟨b, off, none⟩) N cap) := by
  by_cases hN : N = 0
  ·subst hN
   simp only [List.take_zero]
   exact RepD.empty _ _ _ _ _
  ·obtain ⟨rfl, rfl⟩ := hbo (by omega)
   simp only [Int.toNat_natCast]
   have hus := hu.sub LO N
   have hln : ((l.drop LO).take N).length = N := by simp; omega
   have hfe : D.flat ((l.drop LO).take N) = ((D.flat l).drop (LO * k)).take (N * k) := by
    rw [flat_take (fun x hx => hu x (List.mem_of_mem_drop hx)), flat_drop hu]
   have hflN := flat_length hus
   have hmul : LO * k + N * k ≤ l.length * k := by rw [← Nat.add_mul]; exact Nat.mul_le_mul_right _ (by omega)
   have hgetj : ∀ (j : Nat) (hj : j < (D.flat ((l.drop LO).take N)).length), (D.flat ((l.drop LO).take N))[j] = (D.flat l)[LO * k + j]'(by rw [hflN, hln] at hj; omega) := by
    intro j hj
    simp only [hfe, List.getElem_take, List.getElem_drop]
   have := RepD.list (K := G'.K) k ((l.drop LO).take N) (G.β (.o i)) (LO * k) cap (fun j => vs.getD (LO * k + j) Go.undef) hus (by rw [hln]; simpa using hcap)
    (fun j hj => by
     rw [hflN, hln] at hj
     have hjj : LO * k + j < (D.flat l).length := by omega
     simp [G', B, hjj])
    (fun j hj => by rw [hflN, hln] at hj; exact h1 _ (by omega))
    (fun j hj => by
     rw [hgetj j hj]
     rw [hflN, hln] at hj
     exact (hh _ (by omega)).mono hKle)
   rwa [hln] at this
 refine ⟨G', ⟨⟨fun b' x f' h => ?_⟩, by simpa [G'] using R.nh, fun i' ob hob => ?_, hkept, fun b' x f' h => ?_⟩, by rw [hsubl]; exact hlist', fun m => ⟨hKle, fun x v h => ?_, fun b' hb h => ⟨rfl, ?_⟩, Nat.le_refl _, fun _ _ => rfl, rfl, rfl, fun _ _ => rfl, rfl, Nat.le_refl _⟩, hpr, rfl⟩
 ·simp only [G'] at h
  split at h
  ·cases h
  ·exact R.sane.no b' x f' h
 ·by_cases hii : i = i'
  ·subst hii
   simp [List.getElem?_set_self hil] at hob
   subst hob; trivial
  ·rw [List.getElem?_set_ne hii] at hob
   exact (R.objs i' ob hob).pres R.sane (by rw [← R.nh]; exact (List.getElem?_eq_some_iff.1 hob).1) hpr (by simp; exact fun e => hii e.symm) (by simp)
 ·simp only [G'] at h ⊢
  split at h
  ·cases h
  ·rename_i hne
   refine ⟨(R.disj b' x f' h).1, fun j hj => ?_⟩
   rw [if_neg (by intro hc; exact hne hc.1)]
   exact (R.disj b' x f' h).2 j hj
 ·simp only [G'] at h
  split at h
  ·rename_i hc; exact .inr (.inl ⟨_, by rw [hc.1]; exact hO⟩)
  ·exact .inl h
 ·simp only [G']; split
  ·rfl
  ·exact h
end Go.Am

set_option linter.unusedSimpArgs false
set_option linter.unusedVariables false
namespace Go.Am
open Go
mutual
def D.kf : D → Bool
 | .list _ [] => true
 | .list _ (_ :: _) => false
 | .agg l => kfD l
 | .iface _ x => x.kf
 | .ref _ => false
 | _ => true
def kfD : List D → Bool
 | [] => true
 | x :: r => x.kf && kfD r
end
theorem kfD_get : ∀ {l : List D}, kfD l = true → ∀ (i : Nat) (hi : i < l.length), l[i].kf = true
 | x :: r, h, 0, _ => by simp [kfD] at h; exact h.1
 | x :: r, h, i + 1, hi => by simp [kfD] at h; exact kfD_get h.2 i (by simpa using hi)
mutual
def AV.kf : AV → Bool
 | .own .. | .lim .. | .tail .. | .lbox _ | .place .. | .iptr _ | .fresh .. => false
 | .d x => x.kf
 | .func _ as bs => kfL as && kfL bs
 | .agg cs | .tuple cs => kfL cs
 | _ => true
def kfL : List AV → Bool
 | [] => true
 | c :: r => c.kf && kfL r
end
theorem kfL_get : ∀ {l : List AV}, kfL l = true → ∀ (i : Nat) (hi : i < l.length), l[i].kf = true
 | x :: r, h, 0, _ => by simp [kfL] at h; exact h.1
 | x :: r, h, i + 1, hi => by simp [kfL] at h; exact kfL_get h.2 i (by simpa using hi)
theorem RepD.kf {K K' : Addr → Option Value} {x : D} {v : Value} (h : RepD K x v) : x.kf = true → RepD K' x v := by
 induction h with
 | bool b => exact fun _ => .bool b
 | int k n => exact fun _ => .int k n
 | str s => exact fun _ => .str s
 | nilIface => exact fun _ => .nilIface
 | iface t x v _ ih => exact fun hk => .iface t x v (ih (by simpa [D.kf] using hk))
 | agg cs vs hs _ h1 ih => exact fun hk => .agg cs vs hs (fun i hi => ih i hi (kfD_get (by simpa [D.kf] using hk) i hi)) h1
 | ref cs b off vs hk h1 _ _ => exact fun hkf => by simp [D.kf] at hkf
 | nil k => exact fun _ => .nil k
 | none0 k a => exact fun _ => .none0 k a
 | list k l b off cap vs hu hc hk h1 _ ih =>
   intro hkf
   cases l with
   | nil => exact .list k [] b off cap vs hu hc (fun j hj => by simp [D.flat] at hj) (fun j hj => by simp [D.flat] at hj) (fun j hj => by simp [D.flat] at hj)
   | cons y r => simp [D.kf] at hkf
theorem RepV.kf {G G' : Gh} {w w' : World} {ℓ : Loc} {av : AV} {v : Value} (h : RepV G w ℓ av v) (hβ : ∀ a, a < G.nh → G'.β (.o a) = G.β (.o a)) (hn : G.nh ≤ G'.nh) : av.kf = true → ∀ ℓ', RepV G' w' ℓ' av v := by
 induction h with
 | undef ℓ v => exact fun _ ℓ' => .undef ℓ' v
 | abool ℓ b => exact fun _ ℓ' => .abool ℓ' b
 | d ℓ x v h => exact fun hk ℓ' => .d ℓ' x v (h.kf (by simpa [AV.kf] using hk))
 | ptr ℓ a off ha => intro _ ℓ'; rw [← hβ a ha]; exact .ptr ℓ' a off (Nat.lt_of_lt_of_le ha hn)
 | nilptr ℓ => exact fun _ ℓ' => .nilptr ℓ'
 | iptr ℓ cs b off vs hK h1 h => intro hk; simp [AV.kf] at hk
 | own ℓ k l v h ht => intro hk; simp [AV.kf] at hk
 | lim ℓ k l v h ht => intro hk; simp [AV.kf] at hk
 | tail ℓ k l v h ht => intro hk; simp [AV.kf] at hk
 | func ℓ f as bs va vb ha hb _ _ hc hc' ih ih' =>
   intro hk ℓ'
   simp [AV.kf] at hk
   exact .func ℓ' f as bs va vb ha hb (fun i hi => ih i hi (kfL_get hk.1 i hi) _) (fun i hi => ih' i hi (kfL_get hk.2 i hi) _) hc hc'
 | nilfunc ℓ => exact fun _ ℓ' => .nilfunc ℓ'
 | yield ℓ l hl => intro _ ℓ'; rw [← hβ l hl]; exact .yield ℓ' l (Nat.lt_of_lt_of_le hl hn)
 | map ℓ a ha => intro _ ℓ'; rw [← hβ a ha]; exact .map ℓ' a (Nat.lt_of_lt_of_le ha hn)
 | nilmap ℓ => exact fun _ ℓ' => .nilmap ℓ'
 | lbox t cs vs e hO hw hs _ hc ih => intro hk; simp [AV.kf] at hk
 | place ℓ r off => intro hk; simp [AV.kf] at hk
 | mref ℓ a k lo n b off cap ha h1 h2 h3 h4 => intro _ ℓ'; exact .mref ℓ' a k lo n b off cap (Nat.lt_of_lt_of_le ha hn) h1 h2 h3 (fun h => by rw [hβ a ha]; exact h4 h)
 | mcap ℓ a k lo n c b off cap ha h1 h2 h3 h4 h5 => intro _ ℓ'; exact .mcap ℓ' a k lo n c b off cap (Nat.lt_of_lt_of_le ha hn) h1 h2 h3 h4 (fun h => by rw [hβ a ha]; exact h5 h)
 | gref ℓ a k p ha hc hq => intro _ ℓ'; rw [← hβ _ ha, ← hβ _ (by omega : a + 1 < _)] at hc; rw [← hβ _ ha, ← hβ _ (by omega : a + 1 < _)]; exact .gref ℓ' a k p (Nat.lt_of_lt_of_le ha hn) hc (fun h => by rw [hβ _ (by omega : a < _)]; exact hq (by rw [← hβ _ (by omega : a + 1 < _)]; exact h))
 | fresh ℓ k l v h => intro hk; simp [AV.kf] at hk
 | junk ℓ v h => exact fun _ ℓ' => .junk ℓ' v h
 | eptr ℓ a k i j ha hi => intro _ ℓ'; rw [← hβ a ha]; exact .eptr ℓ' a k i j (Nat.lt_of_lt_of_le ha hn) hi
 | vptr ℓ a k i j m z ha hi hz hm => intro _ ℓ'; rw [← hβ a ha]; exact .vptr ℓ' a k i j m z (Nat.lt_of_lt_of_le ha hn) hi hz hm
 | agg ℓ cs vs hs _ hc hf ih => intro hk ℓ'; exact .agg ℓ' cs vs hs (fun i hi => ih i hi (kfL_get (by simpa [AV.kf] using hk) i hi) _) hc hf
 | tuple ℓ cs vs hs _ hc ih => intro hk ℓ'; exact .tuple ℓ' cs vs hs (fun i hi => ih i hi (kfL_get (by simpa [AV.kf] using hk) i hi) _) hc
def AV.kfo : AV → Bool
 | .own _ [] => true
 | c => c.kf
def AV.kft : AV → Bool
 | .lbox cs => cs.all AV.kfo
 | c => c.kf
theorem RepV.kfo {G G' : Gh} {w : World} {ℓ : Loc} {av : AV} {v : Value} (h : RepV G w ℓ av v) (hβ : ∀ a, a < G.nh → G'.β (.o a) = G.β (.o a)) (hn : G.nh ≤ G'.nh) (hO : ∀ b f, G.O b = some (ℓ, f) → G'.O b = some (ℓ, f)) (hk : av.kfo = true) : RepV G' w ℓ av v := by
 cases av with
 | own k l =>
   cases l with
   | nil =>
     cases h with | own _ _ _ _ h ht =>
     refine .own _ _ _ _ (h.kf rfl) fun a n cap e hc => ?_
     obtain ⟨f, c, e, h1, h2, h3, h4, h5⟩ := ht a n cap e hc
     exact ⟨f, c, e, hO _ _ h1, h2, h3, h4, h5⟩
   | cons x r => simp [AV.kfo, AV.kf] at hk
 | _ => exact h.kf hβ hn hk ℓ
theorem RepV.kft {G G' : Gh} {w : World} {t : Nat} {av : AV} {v : Value} (h : RepV G w (.s t) av v) (hβ : ∀ a, a < G.nh → G'.β (.o a) = G.β (.o a)) (hβs : G'.β (.s t) = G.β (.s t)) (hn : G.nh ≤ G'.nh)
  (hO : ∀ b f, G.O b = some (.s t, f) → G'.O b = some (.s t, f)) (hOc : ∀ j b f, G.O b = some (.sc t j, f) → G'.O b = some (.sc t j, f)) (hk : av.kft = true) : RepV G' w (.s t) av v := by
 cases av with
 | lbox cs =>
   cases h with | lbox _ _ vs e h1 h2 h3 h4 h5 =>
   have hk' : ∀ c ∈ cs, c.kfo = true := by simpa [AV.kft] using hk
   rw [← hβs] at h1 h2 ⊢
   exact .lbox t cs vs e (hO _ _ (by rw [hβs] at h1 ⊢; exact h1)) h2 h3 (fun j hj => (h4 j hj).kfo hβ hn (hOc j) (hk' _ (List.getElem_mem hj))) h5
 | _ => exact h.kf hβ hn hk _
def thawSt (σ : St) (ts : List Nat) (i j k : Nat) (l : List D) (cs : List AV) (n : Int) : St :=
 { env := ts.map fun t => (t, σ.get t), heap := (List.range σ.heap.length).map (fun x => if x = i then .cells (cs.set j (.mref σ.heap.length k 0 n)) else .dead) ++ [.arr k l], n := σ.n }
theorem eget_map (g : Nat → AV) : ∀ (ts : List Nat) (t : Nat), eget (ts.map fun t => (t, g t)) t = if t ∈ ts then g t else .undef
 | [], t => rfl
 | s :: r, t => by
   simp only [List.map_cons, eget, eget_map g r t, List.mem_cons]
   by_cases h : s = t
   ·subst h; simp
   ·have h2 : ¬ t = s := fun e => h e.symm
    simp [h, h2]
def lists1 (l : List D) : Bool := l.all fun x => match x with | .list _ ys => scalars ys | _ => false
def loose (l : List D) : Bool := scalars l || lists1 l
theorem lists1_get {l : List D} (h : lists1 l = true) {x : D} (hx : x ∈ l) : ∃ k ys, x = .list k ys ∧ scalars ys = true := by
 have := List.all_eq_true.1 h x hx
 cases x <;> first | (simp at this; done) | exact ⟨_, _, rfl, this⟩
theorem lists1_flat : ∀ {l : List D}, lists1 l = true → D.flat l = l
 | [], _ => rfl
 | x :: l, h => by
   obtain ⟨k, ys, rfl, _⟩ := lists1_get h (List.mem_cons_self ..)
   have := lists1_flat (l := l) (by unfold lists1 at h ⊢; rw [List.all_cons, Bool.and_eq_true] at h; exact h.2)
   unfold D.flat at this ⊢
   rw [List.flatMap_cons, this]; rfl
theorem RepD.isSlice {K : Addr → Option Value} {k : Nat} {ys : List D} {v : Value} (h : RepD K (.list k ys) v) : ∃ p n c, v = .slice p n c := by
 generalize hx : D.list k ys = x at h
 cases h <;> first | (cases hx; exact ⟨_, _, _, rfl⟩) | (cases hx)
theorem RepD.notSlice {K : Addr → Option Value} {x : D} {p : Option Addr} {n c : Nat} (hs : x.scalar = true) (h : RepD K x (.slice p n c)) : False := by
 generalize hv : Value.slice p n c = v at h
 cases h <;> first | (cases hv; done) | (simp [D.scalar] at hs)
theorem RepD.letgo {K K' : Addr → Option Value} {b : Nat} {l : List D} (hl : loose l = true) {vs : Nat → Value} (hK : ∀ j, j < (D.flat l).length → K ⟨b, 0 + j, none⟩ = some (vs j)) (hh : ∀ (j : Nat) (hj : j < (D.flat l).length), RepD K (D.flat l)[j] (vs j))
  (hfr : ∀ j, (D.flat l).length ≤ j → K ⟨b, j, none⟩ = none) (hKi : ∀ x v, x.block ≠ b → K x = some v → K' x = some v) (q : Nat) (hq : q < (D.flat l).length) : RepD K' (D.flat l)[q] (vs q) := by
 unfold loose at hl
 rw [Bool.or_eq_true] at hl
 rcases hl with hs | hs
 ·exact (hh q hq).scalar (scalars_flat hs _ (List.getElem_mem hq))
 ·have hf := lists1_flat hs
  have hmem : ∀ x ∈ D.flat l, x ∈ l := fun x hx => by rwa [hf] at hx
  obtain ⟨k, ys, he, hy⟩ := lists1_get hs (hmem _ (List.getElem_mem hq))
  have h := hh q hq
  rw [he] at h ⊢
  generalize hv : vs q = v at h ⊢
  generalize hx : D.list k ys = x at h ⊢
  cases h <;> first | (cases hx; done) | skip
  ·exact .nil _
  ·exact .none0 _ _
  ·rename_i k' l' b' off cap ws hu hc hK2 h1 h2
   cases hx
   refine .list k ys b' off cap ws hu hc (fun j hj => hKi _ _ ?_ (hK2 j hj)) h1 (fun j hj => (h2 j hj).scalar (scalars_flat hy _ (List.getElem_mem hj)))
   rintro rfl
   have e1 := hK2 j hj
   rcases Nat.lt_or_ge (off + j) (D.flat l).length with hlt | hge
   ·have e2 := hK (off + j) hlt
    rw [Nat.zero_add, e1] at e2
    obtain ⟨k3, ys3, he3, _⟩ := lists1_get hs (hmem _ (List.getElem_mem hlt))
    have h3 := hh (off + j) hlt
    rw [he3, ← Option.some.inj e2] at h3
    obtain ⟨p, n, c, hv3⟩ := h3.isSlice
    have h4 := h2 j hj
    rw [hv3] at h4
    exact h4.notSlice (scalars_flat hy _ (List.getElem_mem hj))
   ·rw [hfr _ hge] at e1; cases e1
theorem Rel.thawC {G : Gh} {σ : St} {a : Act} {w : World} (R : Rel G σ a w) {ts : List Nat} {i j k : Nat} {l : List D} {cs : List AV} {n : Int} (hi : σ.heap[i]? = some (.cells cs)) (hj : cs[j]? = some (.own k l)) (hl : l ≠ []) (hs : loose l = true) (hn : (l.length : Int) = n)
  (hts : ∀ t ∈ ts, (σ.get t).kft = true) (hcs : ∀ q c, q ≠ j → cs[q]? = some c → c.kf = true) :
  ∃ b G', Rel G' (thawSt σ ts i j k l cs n) a w ∧ (∃ p, G.O b = some p) ∧ (∀ x v, G'.K x = some v ↔ x.block ≠ b ∧ G.K x = some v) ∧ (∀ c, G.O c = none → G'.O c = none) := by
 have hil : i < σ.heap.length := (List.getElem?_eq_some_iff.1 hi).1
 have hjl : j < cs.length := (List.getElem?_eq_some_iff.1 hj).1
 have hcj : cs[j] = .own k l := (List.getElem?_eq_some_iff.1 hj).2
 obtain ⟨vs, e, o1, o2, o3, o4, o5⟩ := R.h.objs i _ hi
 have hv := o4 j hjl
 rw [hcj] at hv
 generalize hvv0 : vs.getD j Go.undef = v at hv
 cases hv with | own _ _ _ _ hr ht =>
 rcases hr.slice with ⟨rfl, _⟩ | ⟨b, off, cap, hvv⟩
 ·exact absurd rfl hl
 have hlen : 0 < l.length := List.length_pos_iff.2 hl
 have hcap : l.length ≤ cap := by
  rw [hvv] at hr
  generalize hv' : Value.slice (some ⟨b, off, none⟩) l.length cap = v at hr
  cases hr with
  | nil => simp at hv'
  | none0 => simp
  | list k l b' off' cap' vs hu hc => simp at hv'; omega
 obtain ⟨fr, c, e0, t1, t2, t3, t4, t5⟩ := ht _ _ _ hvv (by omega)
 dsimp only at t1 t2 t3 t4 t5
 subst t5
 have hnh : σ.heap.length = G.nh := R.h.nh
 obtain ⟨hu, hK, hKK, h1c, hh⟩ : uniform k l ∧ ∃ vs : Nat → Value, (∀ j, j < (D.flat l).length → G.K ⟨b, 0 + j, none⟩ = some (vs j)) ∧ (∀ j, j < (D.flat l).length → (vs j).oneCell' = true) ∧ ∀ (j : Nat) (hj : j < (D.flat l).length), RepD G.K (D.flat l)[j] (vs j) := by
  rw [hvv] at hr
  generalize hv' : Value.slice (some ⟨b, 0, none⟩) l.length cap = v at hr
  cases hr with
  | nil => simp at hv'
  | none0 => exact absurd rfl hl
  | list k l b' off' cap' vs hu hc hK h1 hh =>
    simp at hv'
    obtain ⟨⟨rfl, rfl⟩, _⟩ := hv'
    exact ⟨hu, vs, hK, h1, hh⟩
 have hfl := flat_length hu
 have hsz : (D.flat l).length ≤ c.size := by
  have : l.length * k ≤ cap * k := Nat.mul_le_mul_right k hcap
  omega
 have hcell : ∀ j, j < (D.flat l).length → c.getD j Go.undef = hK j := by
  intro j hj
  have := R.h.kept _ _ (hKK j hj)
  rw [Nat.zero_add] at this
  have h2 := cell_at t3 (show j < c.size by omega)
  rw [this] at h2
  exact (Option.some.inj h2).symm
 have hbi : b ≠ G.β (.o i) := by rintro rfl; rw [o1] at t1; cases t1
 let G' : Gh := { K := fun x => if x.block = b then none else G.K x, O := fun x => if x = b then some (.o G.nh, 0) else G.O x, β := fun r => if r = .o G.nh then b else G.β r, nh := G.nh + 1 }
 have hβ : ∀ i, i < G.nh → G'.β (.o i) = G.β (.o i) := by
  intro i hi
  simp only [G', Root.o.injEq]
  rw [if_neg (by omega)]
 have hKi : ∀ x v, G'.K x = some v ↔ x.block ≠ b ∧ G.K x = some v := by
  intro x v
  simp only [G']
  split <;> simp_all
 have hin : i < G.nh := by omega
 have hOo : ∀ {ℓ : Loc}, ℓ ≠ .oc i j → ∀ b' f', G.O b' = some (ℓ, f') → G'.O b' = some (ℓ, f') := by
  intro ℓ hne b' f' h
  simp only [G']
  rw [if_neg]; exact h
  rintro rfl
  rw [t1] at h; simp at h; exact hne h.1.symm
 refine ⟨b, G', ⟨⟨⟨fun b' ℓ f' h => ?_⟩, by simp [thawSt, G', hnh], fun i' ob hob => ?_, fun x v h => R.h.kept x v ((hKi x v).1 h).2, fun b' ℓ f' h => ?_⟩, R.size, fun t => ?_, fun t r off' ht => ?_, ?_⟩, ⟨_, t1⟩, hKi, fun c' hc' => ?_⟩
 ·simp only [G'] at h
  split at h
  ·simp at h; rw [← h.1]; simp [Loc.root]
  ·exact R.h.sane.no b' ℓ f' h
 ·simp only [thawSt] at hob
  rcases Nat.lt_or_ge i' σ.heap.length with hlt | hge
  ·rw [List.getElem?_append_left (by simpa using hlt)] at hob
   rw [List.getElem?_map, List.getElem?_range hlt] at hob
   simp only [Option.map_some, Option.some.injEq] at hob
   split at hob
   ·rename_i hii; subst hii; subst hob
    refine ⟨vs, e, ?_, ?_, by simpa using o3, fun q hq => ?_, fun x hx => ?_⟩
    ·rw [hβ i' hin]; simp only [G']; rw [if_neg (Ne.symm hbi)]; exact o1
    ·rw [hβ i' hin]; exact o2
    ·rw [List.length_set] at hq
     by_cases hqj : q = j
     ·subst hqj
      rw [List.getElem_set_self, hvv0, hvv, hnh, ← hn]
      have := RepV.mref (G := G') (w := w) (.oc i' q) G.nh k 0 (l.length : Int) b 0 cap (by simp [G']) (Int.le_refl _) (by omega) (by simpa using hcap) (fun _ => ⟨by simp [G'], by simp⟩)
      simpa using this
     ·rw [List.getElem_set_ne (Ne.symm hqj)]
      exact (o4 q hq).kf hβ (Nat.le_succ _) (hcs q _ hqj (List.getElem?_eq_getElem hq)) _
    ·rcases List.mem_or_eq_of_mem_set hx with hx | rfl
     ·exact o5 x hx
     ·rfl
   ·subst hob; trivial
  ·rcases Nat.eq_or_lt_of_le hge with rfl | hgt
   ·rw [List.getElem?_append_right (by simp)] at hob
    simp at hob
    subst hob
    refine ⟨c, e0, ?_, ?_, hu, hsz, fun q hq => ?_, fun q hq => ?_⟩
    ·simp [G', hnh]
    ·simpa [G', hnh] using t3
    ·rw [hcell q hq]; exact h1c q hq
    ·rw [hcell q hq]
     exact RepD.letgo hs hKK hh (fun x hx => (R.h.disj _ _ _ t1).2 x (by omega)) (fun x v hx hv => (hKi x v).2 ⟨hx, hv⟩) q hq
   ·rw [List.getElem?_eq_none (by simp; omega)] at hob; cases hob
 ·simp only [G'] at h ⊢
  split at h
  ·rename_i hb; subst hb
   exact ⟨(R.h.disj _ _ _ t1).1, fun q _ => by simp⟩
  ·rename_i hb
   have := R.h.disj b' ℓ f' h
   exact ⟨this.1, fun q hq => by simp only [hb, if_false]; exact this.2 q hq⟩
 ·simp only [thawSt, St.get, eget_map]
  split
  ·rename_i htm
   exact (R.slots t).kft hβ (by simp [G']) (Nat.le_succ _) (hOo (by simp)) (fun j => hOo (by simp)) (hts t htm)
  ·exact .undef _ _
 ·simp only [thawSt, St.get, eget_map] at ht
  split at ht
  ·rename_i htm
   have := hts t htm
   simp only [St.get] at this
   rw [ht] at this; simp [AV.kft, AV.kf] at this
  ·cases ht
 ·refine ⟨R.df.1, fun d hd => ?_⟩
  obtain ⟨r0, h1, h2, h3⟩ := R.df.2 d hd
  refine ⟨r0, h1, ?_, h3⟩
  simp only [G']
  rw [if_neg (by rintro rfl; rw [h2] at t1; cases t1)]; exact h2
 ·simp only [G']
  rw [if_neg (by rintro rfl; rw [t1] at hc'; cases hc')]; exact hc'
def AWpR (P : Program) (c : Code) (Q : Exit → St → Prop) (σ : St) : Prop :=
 ∀ (n : Nat) (G0 : Gh) (w0 : World) (G : Gh) (a : Act) (w : World), (∀ b, G0.O b = none) → (∀ x v, G0.K x = some v → x.block < w0.heap.size) → Rel G σ a w → Ext 0 G0 w0 G w → c.wpIn (Wd none) n P (Post 0 G0 w0 Q) a w
section
variable {P : Program} {c x y : Code} {Q : Exit → St → Prop} {σ : St}
theorem AWpR.of (h : AWpT P 0 c Q σ) : AWpR P c Q σ := fun n G0 w0 G a w _ _ R hE => wpIn_mono (h n G a w (Nat.zero_le _) R) (fun _ _ _ hp => hp.ext hE)
theorem AWpR.seq (h : AWpT P 0 x (AExit.then (AWpR P y Q) Q) σ) : AWpR P (.seq x y) Q σ := by
 intro n G0 w0 G a w hO hK R hE0
 refine wpIn_seq (wpIn_mono (h n G a w (Nat.zero_le _) R) ?_)
 rintro e a' w' ⟨σ', G', R', hE, hm', hQ⟩
 cases e with
 | normal => exact hQ n G0 w0 G' a' w' hO hK R' (hE0.trans hE)
 | _ => exact ⟨σ', G', R', hE0.trans hE, hm', hQ⟩
theorem AWpR.seq2 (h : AWpR P x (AExit.then (AWpR P y Q) Q) σ) : AWpR P (.seq x y) Q σ := by
 intro n G0 w0 G a w hO hK R hE0
 refine wpIn_seq (wpIn_mono (h n G0 w0 G a w hO hK R hE0) ?_)
 rintro e a' w' ⟨σ', G', R', hE, hm', hQ⟩
 cases e with
 | normal => exact hQ n G0 w0 G' a' w' hO hK R' hE
 | _ => exact ⟨σ', G', R', hE, hm', hQ⟩
theorem AWpR.thawC (ts : List Nat) (i j : Nat) {k : Nat} {l : List D} {cs : List AV} {n : Int} (hi : σ.heap[i]? = some (.cells cs)) (hj : cs[j]? = some (.own k l)) (hl : l ≠ []) (hs : loose l = true) (hn : (l.length : Int) = n)
  (hts : ts.all (fun t => (σ.get t).kft) = true) (hcs : kfL (cs.set j .undef) = true) (h : AWpR P c Q (thawSt σ ts i j k l cs n)) : AWpR P c Q σ := by
 intro n' G0 w0 G a w hO hK R hE
 obtain ⟨b, G', R', ⟨p, hb⟩, hKi, hO'⟩ := R.thawC (ts := ts) hi hj hl hs hn (fun t ht => List.all_eq_true.1 hts t ht) (fun q c hq hc => by
  have hql : q < cs.length := (List.getElem?_eq_some_iff.1 hc).1
  have := kfL_get hcs q (by simpa using hql)
  rw [List.getElem_set_ne (Ne.symm hq)] at this
  rw [(List.getElem?_eq_some_iff.1 hc).2] at this
  exact this)
 have hnew : w0.heap.size ≤ b := by
  rcases Nat.lt_or_ge b w0.heap.size with hlt | hge
  ·have := (hE.others b hlt (hO b)).2
   rw [hb] at this; cases this
  ·exact hge
 refine h n' G0 w0 G' a w hO hK R' ⟨fun x v hx => (hKi x v).2 ⟨fun e => ?_, hE.K x v hx⟩, fun x v hx => hE.new x v ((hKi x v).1 hx).2, fun b' hb' hO1 => ⟨(hE.others b' hb' hO1).1, hO' _ (hE.others b' hb' hO1).2⟩, hE.size, fun i hi => absurd hi (Nat.not_lt_zero _), hE.io⟩
 have := hK x v hx
 omega
end
theorem ACall.enterR {P : Program} {T : Types} (hT : TOk P T) {f : FuncId} {fn : Func} {c : Code} {args : List AV} {H' : List Obj} {r : AV} (hf : P.funcs[f]? = some fn) (hb : fn.body = some c) (hname : fn.name ≠ "runtime.NumGoroutine")
  (hn : args.length ≤ fn.ntmps) (hfr : args.all AV.free = true) (hia : inbL 0 args = true) (hrl : r.isLocal = false) (hri : r.inb H'.length = true) (hin : objsInb H'.length H' = true)
  (h : AWpR P c (FnPost T fn 0 r H') { env := envOf 0 args, heap := [], n := fn.ntmps }) : ACall P f args [] r H' := by
 refine ⟨by simp [callable, hf, hb, hname], hrl, hri, hin, Nat.zero_le _, fun n G w vs hvs hrep RH _ => ?_⟩
 let G1 : Gh := { G with O := fun _ => none }
 have RH1 : RelH G1 [] w := ⟨⟨fun b ℓ f h => by cases h⟩, RH.nh, fun i ob h => by simp at h, RH.kept, fun b ℓ f h => by cases h⟩
 have hfr' : ∀ c ∈ args, c.free = true := by simpa using hfr
 have hsub : Sub G G1 w w (fun ℓ => ℓ = .no) 0 := ⟨KLe.refl _, fun b ℓ f hl hO => absurd (hl ▸ rfl) (RH.sane.no b ℓ f hO), fun _ _ => rfl, Nat.zero_le _⟩
 refine CallsIn.mono (ACall.enterW hT hf hb hname hn hfr hrl hri hin (Nat.zero_le _) n G1 w (fun a R => h n G1 w G1 a w (fun _ => rfl) (fun x v hx => World.block_lt_of_cell? w _ (RH.kept x v hx)) R (Ext.refl _ _ _)) vs hvs
  (fun i hi => (hrep i hi).sub RH.sane hsub rfl (inbL_get hia i hi) (AV.free_isLocal (hfr' _ (List.getElem_mem hi)))) RH1) ?_
 rintro e w' ⟨v, G', rfl, hv, R', hE⟩
 exact ⟨v, G', rfl, hv, R', hE.K, fun x v hx => (hE.new x v hx).imp id (fun h => h.elim (fun ⟨p, hp⟩ => by cases hp) .inr), fun b hb _ => hE.others b hb rfl, hE.size, fun i hi => absurd hi (Nat.not_lt_zero _), hE.io⟩
end Go.Am
