/- Own text: AmRef. -/
import Derived.Test.YtkjeamngjnfpkaaGreatAmLaw
set_option linter.unusedVariables false
namespace Go.Am
open Go
def refN {τ:Type} (n:Nat) (d:CodL τ) (hn : ∀ v,n≤(d.en v).length):CodL τ where
 un | .ref xs::r=>if xs.length=n then d.un (xs++r) else none
    | _=>none
 en v := .ref ((d.en v).take n)::(d.en v).drop n
 ok x v h:=by
  match x,h with
  | .ref xs::r,h =>
    simp only at h
    split at h
    ·rename_i hx
     have:=d.ok _ v h
     rw [←this,←hx,List.take_left,List.drop_left]
    ·cases h
 ko v:=by
  simp only
  rw [if_pos (by rw [List.length_take];exact Nat.min_eq_left (hn v)),List.take_append_drop,d.ko]
end Go.Am
