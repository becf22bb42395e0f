/- Own text: ERowcheapest. -/
import Derived.Test.YtalfdjihejohoaaD1frow
import Derived.Test.YtalfdjihejohoaaEL16
import Derived.Test.YtalfdjihejohoaaGenw1
set_option maxRecDepth 100000
namespace Go.Proofs.Ytalfdjihejohoaa
open Go Go.Am Go.ChangeShapes Go.RowKit
theorem cheapest_contract (H:Type) (enc:TypeId×Value->H) (W:World) (base:Nat) (args:Array Value) (ds gs:List (DataW H)) (before:List MemPlace)
  (hval : ∀ (j:Nat) t v,Try.f12.params[j]?=some t->args[j]?=some v->Value.okWide Try.prog W .any base t v)
  (hW:DataW.Whole enc Try.prog Try.f12.params.toList Rows.delayCheapestSpec.vars false W args.toList ds gs before) :
  Calls Try.prog 12 args W fun e W' => ∃ v,e = .returned v/\Rows.delayCheapestSpec.post enc Try.prog Try.f12 false true false false W args v W':=by
 have hW':=hW
 obtain ⟨p,q,hA,hV,rfl,hfz,hnd⟩:=hW
 rw [Try.params12] at hA hval
 obtain ⟨v0,vs0,d0,ds0,p0,q0,hargs,rfl,rfl,h0,hA⟩:=trodAll_cons hA
 obtain ⟨v1,vs1,d1,ds1,p1,q1,rfl,rfl,rfl,h1,hA⟩:=trodAll_cons hA
 obtain ⟨v2,vs2,d2,ds2,p2,q2,rfl,rfl,rfl,h2,hA⟩:=trodAll_cons hA
 obtain ⟨v3,vs3,d3,ds3,p3,q3,rfl,rfl,rfl,h3,hA⟩:=trodAll_cons hA
 obtain ⟨v4,vs4,d4,ds4,p4,q4,rfl,rfl,rfl,h4,hA⟩:=trodAll_cons hA
 obtain ⟨rfl,rfl,rfl⟩:=trodAll_nil hA
 obtain rfl:args = #[v0,v1,v2,v3,v4]:=by cases args;simp_all
 obtain ⟨x0,k0,r0⟩:=rdX.arg (pk:=dX) (fun _=>rfl) (r := .any) (b0:=base) (okWide_oneCell (hval 0 22 v0 rfl rfl) (by simp [Try.underlying22]) (by simp [Try.underlying22])) h0
 obtain ⟨x1,k1,r1⟩:=rdCost.arg (pk:=dCost) (fun _=>rfl) (r := .any) (b0:=base) (okWide_oneCell (hval 1 48 v1 rfl rfl) (by simp [Try.underlying48]) (by simp [Try.underlying48])) h1
 obtain ⟨x2,k2,r2⟩:=rdFens.arg (pk:=(fun l => .list 2 (l.map dFen))) (fun _=>rfl) (r := .any) (b0:=base) (okWide_oneCell (hval 2 49 v2 rfl rfl) (by simp [Try.underlying49]) (by simp [Try.underlying49])) h2
 obtain ⟨x3,k3,r3⟩:=rdRow.arg (pk:=dRow) (fun _=>rfl) (r := .any) (b0:=base) (okWide_oneCell (hval 3 55 v3 rfl rfl) (by simp [Try.underlying55]) (by simp [Try.underlying55])) h3
 obtain ⟨x4,k4,r4⟩:=rdI.arg (pk:=I) (fun _=>rfl) (r := .any) (b0:=base) (okWide_oneCell (hval 4 3 v4 rfl rfl) (by simp [Try.underlying3]) (by simp [Try.underlying3])) h4
 refine row_step laid (fn:=Try.f12) (tb:=4) ?_ rfl Try.underlying4 rfl hW' rfl (E12w rfl (E12_ok x0 x1 x2 x3 x4 k0 (by have:=k1.1;simp only [maxLen] at this;omega) (fun r hr=>by have:=k1.2 r hr;simp only [maxLen] at this;omega))) rfl ?_
 ·exact of_decide_eq_true (by kernel_rfl)
 ·intro i hi
  match i,hi with
  | 0,_=>exact r0
  | 1,_=>exact r1
  | 2,_=>exact r2
  | 3,_=>exact r3
  | 4,_=>exact r4
  | i+5,hi=>simp at hi <;> omega
theorem cheapest_lifted (os:Os) (started:os.Started) (H:Type) (enc:TypeId×Value->H) :
  ReturnsInHanded {} Try.checked os 12 .any (Rows.delayCheapestSpec.pre6 enc Try.prog Try.f12 Rows.delayCheapestRow.domain false) (Rows.delayCheapestSpec.post enc Try.prog Try.f12 false true false false):=by
 refine returnsInHanded_of_change (C:=Try.checked) own started (by kernel_rfl) Try.func12
  (ChangeSpec.witness6 (enc:=enc) (C:=Try.checked) false ⟨#[],#[.slice none 0 0,.slice none 0 0,.slice none 0 0,.slice none 0 0,.int .i64 0],[]⟩ 12 (by kernel_rfl) (by kernel_rfl) (by kernel_rfl) (by kernel_rfl)) ?_
 intro W base args ds gs before hval hW _ _
 exact cheapest_contract H enc W base args ds gs before hval hW
theorem cheapest_said:Rows.DelayCheapestSaid :=
 OpenClaim.holds_of_wide 12 Try.f12 rfl rfl rfl rfl rfl rfl rfl ⟨rfl,rfl,rfl,rfl,rfl⟩ rfl rfl rfl rfl rfl (by kernel_rfl) Try.func12 (by kernel_rfl)
  (of_decide_eq_true (by kernel_rfl)) (by unfold Func.isWrapper;first | (rw [if_pos (by decide +kernel)];kernel_rfl) | (rw [if_neg (by decide +kernel)];exact ⟨rfl,rfl⟩))
  (fun os started H enc _=>cheapest_lifted os started H enc)
end Go.Proofs.Ytalfdjihejohoaa
