/- Own text: EL2. -/
import Derived.Test.YtalfdjihejohoaaD1vc
import Derived.Test.YtalfdjihejohoaaD1ga
set_option maxRecDepth 100000
set_option linter.unusedVariables false
set_option linter.unusedSimpArgs false
set_option linter.unusedSectionVars false
namespace Go.Am
open Go Go.Proofs
structure Ren (x y:List (List Acc)) (σ:Int->Int):Prop where
 len:y.length=x.length
 rng : ∀ t:Int,0<=t->t<(y.length:Int)->0<=σ t/\σ t<(x.length:Int)
 row : ∀ t:Int,0<=t->t<(y.length:Int)->y[t.toNat]?=x[(σ t).toNat]?
 inj : ∀ t u:Int,0<=t->t<(y.length:Int)->0<=u->u<(y.length:Int)->σ t=σ u->t=u
def rhoS (σ:Int->Int) (s:Sta):Sta:=(σ s.1,s.2.1,s.2.2)
section
variable {x y:List (List Acc)} {σ:Int->Int} (R:Ren x y σ)
include R
theorem Ren.acc {t a:Int} (h0:0<=t) (h1:t<(y.length:Int)):acc y t a=acc x (σ t) a:=by
 unfold Am.acc;rw [R.row t h0 h1]
theorem Ren.there {t a:Int} (h0:0<=t) (h1:t<(y.length:Int)):there y t a=there x (σ t) a:=by
 unfold Am.there
 rw [R.row t h0 h1,decide_eq_true h0,decide_eq_true (R.rng t h0 h1).1]
theorem Ren.isPair {s:Sta} (h0:0<=s.1) (h1:s.1<(y.length:Int)):isPair y s=isPair x (rhoS σ s):=by
 unfold Am.isPair rhoS
 dsimp only
 rw [R.there h0 h1,R.there h0 h1,R.acc h0 h1,R.acc h0 h1]
theorem Ren.eq {t u:Int} (h0:0<=t) (h1:t<(y.length:Int)) (g0:0<=u) (g1:u<(y.length:Int)):decide (t=u)=decide (σ t=σ u) :=
 decide_eq_decide.2 ⟨fun e=>e▸rfl,R.inj t u h0 h1 g0 g1⟩
theorem Ren.conflict {t a u b:Int} (h0:0<=t) (h1:t<(y.length:Int)) (g0:0<=u) (g1:u<(y.length:Int)):conflict y t a u b=conflict x (σ t) a (σ u) b:=by
 unfold Am.conflict
 rw [R.acc h0 h1,R.acc g0 g1]
 congr 2
 have:=R.eq h0 h1 g0 g1
 rw [decide_eq_decide] at this
 exact decide_eq_decide.2 (not_congr this)
theorem Ren.getD {t:Int} (h0:0<=t) (h1:t<(y.length:Int)):y.getD t.toNat []=x.getD (σ t).toNat []:=by
 rw [List.getD_eq_getElem?_getD,List.getD_eq_getElem?_getD,R.row t h0 h1]
end
section
variable {x:List (List Acc)} {l:List Int} (ht:threadsB x.length l=true)
include ht
end
end Go.Am

namespace Go.Am
open Go Go.Proofs
def pkL {α:Type} (i:Nat):Nat->List α->List α
 | _,[]=>[]
 | k,a::r=>bif i.testBit k then a::pkL i (k+1) r else pkL i (k+1) r
theorem pkL_snoc {α:Type} (i:Nat) (a:α) : ∀ (l:List α) (k:Nat),pkL i k (l++[a])=pkL i k l++(bif i.testBit (k+l.length) then [a] else [])
 | [],k=>by simp only [List.nil_append,pkL,List.length_nil,Nat.add_zero]
 | b::l,k=>by
   rw [List.cons_append]
   unfold pkL
   rw [pkL_snoc i a l (k+1),List.length_cons,show k+1+l.length=k+(l.length+1) by omega]
   cases i.testBit k <;> rfl
theorem pkL_sub {α:Type} (i:Nat) : ∀ (l:List α) (k:Nat),(pkL i k l).Sublist l
 | [],_ => .slnil
 | a::l,k=>by
   unfold pkL
   cases i.testBit k with
   | true=>exact (pkL_sub i l (k+1)).cons_cons a
   | false=>exact (pkL_sub i l (k+1)).cons a
theorem pkL_congr {α:Type} {i i':Nat} : ∀ (l:List α) (k:Nat),(∀ j,k<=j->i.testBit j=i'.testBit j)->pkL i k l=pkL i' k l
 | [],_,_=>rfl
 | a::l,k,h=>by
   unfold pkL
   rw [h k (Nat.le_refl _),pkL_congr l (k+1) (fun j hj=>h j (by omega))]
theorem pkL_all {α:Type} : ∀ (l S:List α) (k:Nat),S.Sublist l -> ∃ i,i<2 ^ (k+l.length)/\(∀ j,j<k->i.testBit j=false)/\pkL i k l=S
 | [],S,k,h=>by
   cases h
   exact ⟨0,Nat.two_pow_pos _,fun _ _=>Nat.zero_testBit _,rfl⟩
 | a::l,S,k,h=>by
   cases h with
   | cons _ h =>
     obtain ⟨i,h1,h2,h3⟩:=pkL_all l S (k+1) h
     refine ⟨i,by rw [List.length_cons,show k+(l.length+1)=k+1+l.length by omega];exact h1,fun j hj=>h2 j (by omega),?_⟩
     unfold pkL
     rw [h2 k (by omega),cond_false,h3]
   | cons_cons _ h =>
     rename_i S'
     obtain ⟨i,h1,h2,h3⟩:=pkL_all l S' (k+1) h
     refine ⟨i ||| 2 ^ k,?_,fun j hj => ?_,?_⟩
     ·rw [List.length_cons,show k+(l.length+1)=k+1+l.length by omega]
      exact Nat.or_lt_two_pow h1 (Nat.pow_lt_pow_right (by decide) (by omega))
     ·rw [Nat.testBit_or,h2 j (by omega),Nat.testBit_two_pow];simp;omega
     ·unfold pkL
      rw [Nat.testBit_or,Nat.testBit_two_pow_self,Bool.or_true,cond_true]
      congr 1
      rw [<-h3]
      refine pkL_congr l (k+1) (fun j hj => ?_)
      rw [Nat.testBit_or,Nat.testBit_two_pow]
      have : ¬ k=j:=by omega
      simp [this]
def Least (x:List (List Acc)) (c:List (List Int)) (v:Int):Prop :=
 (∃ S,S.Sublist (fencesL x)/\enoughF S (neededL x)=true/\costF c S=v) /\ ∀ S,S.Sublist (fencesL x)->enoughF S (neededL x)=true->v<=costF c S
theorem sum_perm {l m:List Int} (h:l.Perm m):l.sum=m.sum:=by
 induction h with
 | nil=>rfl
 | cons a _ ih=>simp only [List.sum_cons,ih]
 | swap a b l=>simp only [List.sum_cons];omega
 | trans _ _ h1 h2=>rw [h1,h2]
theorem fencesL_nodup (x:List (List Acc)):(fencesL x).Nodup:=by
 unfold fencesL fenT
 refine nodup_flatMap List.nodup_range (fun t _ => ?_) (fun t _ u _ hne y hy z hz => ?_)
 ·unfold fenRow
  refine List.Pairwise.map _ ?_ List.nodup_range
  intro a b h e
  simp only [Prod.mk.injEq,true_and] at e
  exact h (Int.ofNat_inj.1 e)
 ·unfold fenRow at hy hz
  obtain ⟨_,_,rfl⟩:=List.mem_map.1 hy
  obtain ⟨_,_,rfl⟩:=List.mem_map.1 hz
  simp;omega
def phiF (σ:Int->Int) (f:Fen):Fen:=(σ f.1,f.2)
section
variable {x y:List (List Acc)} {σ τ:Int->Int} {c c':List (List Int)}
theorem Ren.fence (R:Ren x y σ) {f:Fen} (h:f∈fencesL y):phiF σ f∈fencesL x:=by
 obtain ⟨h1,h2,h3,h4⟩:=mem_fencesL.1 h
 have:=R.rng _ h1 h2
 refine mem_fencesL.2 ⟨this.1,this.2,h3,?_⟩
 show f.2<rl x (σ f.1)-1
 unfold rl at h4 ⊢
 rw [<-R.getD h1 h2];exact h4
end
end Go.Am
