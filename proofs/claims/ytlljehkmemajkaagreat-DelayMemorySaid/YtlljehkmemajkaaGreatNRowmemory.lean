/- Own text. -/
import Derived.Test.YtlljehkmemajkaaGreatNRd
import Derived.Test.YtlljehkmemajkaaGreatND12
import Derived.Test.YtlljehkmemajkaaGreatGenw4
set_option maxRecDepth 100000
namespace Go.Proofs.YtlljehkmemajkaaGreat
open Go Go.Am Go.ChangeShapes Go.RowKit
theorem memory_contract (H:Type) (enc:TypeId×Value->H) (W:World) (base:Nat) (args:Array Value) (ds gs:List (DataW H)) (before:List MemPlace)
  (hval : ∀ (j:Nat) t v,Tryz.f3.params[j]?=some t->args[j]?=some v->Value.okWide Tryz.prog W .any base t v)
  (hW:DataW.Whole enc Tryz.prog Tryz.f3.params.toList Rows.delayMemorySpec.vars false W args.toList ds gs before) :
  Calls Tryz.prog 3 args W fun e W' => ∃ v,e = .returned v/\Rows.delayMemorySpec.post enc Tryz.prog Tryz.f3 false true false false W args v W':=by
 have hW':=hW
 obtain ⟨p,q,hA,hV,rfl,hfz,hnd⟩:=hW
 rw [Tryz.params3] at hA hval
 obtain ⟨v0,vs0,d0,ds0,p0,q0,hargs,rfl,rfl,h0,hA⟩:=trodAll_cons hA
 obtain ⟨v1,vs1,d1,ds1,p1,q1,rfl,rfl,rfl,h1,hA⟩:=trodAll_cons hA
 obtain ⟨rfl,rfl,rfl⟩:=trodAll_nil hA
 obtain rfl:args = #[v0,v1]:=by cases args;simp_all
 obtain ⟨x0,k0,r0⟩:=rdX.arg (pk:=(fun x => .list 1 (eA x))) (fun _=>rfl) (r := .any) (b0:=base) (a3D (hval 0 22 v0 rfl rfl) (by simp [Tryz.underlying22]) (by simp [Tryz.underlying22])) h0
 obtain ⟨x1,k1,r1⟩:=rdF.arg (pk:=(fun l => .list 2 (eF l))) (fun _=>rfl) (r := .any) (b0:=base) (a3D (hval 1 23 v1 rfl rfl) (by simp [Tryz.underlying23]) (by simp [Tryz.underlying23])) h1
 refine row_step laid (fn:=Tryz.f3) (tb:=4) ?_ rfl Tryz.underlying4 rfl hW' rfl (N3w rfl (c1j x0 (Nat.lt_of_le_of_lt k0.1 c1B) (fun t ht=>Nat.lt_of_le_of_lt (k0.2 t ht) c1B) x1)) rfl ?_
 ·exact of_decide_eq_true (by kernel_rfl)
 ·intro i hi
  match i,hi with
  | 0,_=>exact r0
  | 1,_=>exact r1
  | i+2,hi=>simp at hi <;> omega
theorem memory_lifted (os:Os) (started:os.Started) (H:Type) (enc:TypeId×Value->H) :
  ReturnsInHanded {} Tryz.checked os 3 .any (Rows.delayMemorySpec.pre6 enc Tryz.prog Tryz.f3 Rows.delayMemoryRow.domain false) (Rows.delayMemorySpec.post enc Tryz.prog Tryz.f3 false true false false):=by
 refine returnsInHanded_of_change (C:=Tryz.checked) own started (by kernel_rfl) Tryz.func3
  (ChangeSpec.witness6 (enc:=enc) (C:=Tryz.checked) false ⟨#[],#[.slice none 0 0,.slice none 0 0],[]⟩ 3 (by kernel_rfl) (by kernel_rfl) (by kernel_rfl) (by kernel_rfl)) ?_
 intro W base args ds gs before hval hW _ _
 exact memory_contract H enc W base args ds gs before hval hW
theorem memory_said:Rows.DelayMemorySaid :=
 OpenClaim.holds_of_wide 3 Tryz.f3 rfl rfl rfl rfl rfl rfl rfl ⟨rfl,rfl,rfl,rfl,rfl⟩ rfl rfl rfl rfl rfl (by kernel_rfl) Tryz.func3 (by kernel_rfl)
  (of_decide_eq_true (by kernel_rfl)) (by unfold Func.isWrapper;first | (rw [if_pos (by decide +kernel)];kernel_rfl) | (rw [if_neg (by decide +kernel)];exact ⟨rfl,rfl⟩))
  (fun os started H enc _=>memory_lifted os started H enc)
end Go.Proofs.YtlljehkmemajkaaGreat
