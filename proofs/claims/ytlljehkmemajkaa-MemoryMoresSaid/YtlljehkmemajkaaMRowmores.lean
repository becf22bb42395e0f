/- Own text. -/
import Derived.Test.YtlljehkmemajkaaMRd
import Derived.Test.YtlljehkmemajkaaML47
import Derived.Test.YtlljehkmemajkaaGenw4
set_option maxRecDepth 100000
namespace Go.Proofs.Ytlljehkmemajkaa
open Go Go.Am Go.ChangeShapes Go.RowKit
theorem mores_contract (H:Type) (enc:TypeId×Value->H) (W:World) (base:Nat) (args:Array Value) (ds gs:List (DataW H)) (before:List MemPlace)
  (hval : ∀ (j:Nat) t v,Try.f4.params[j]?=some t->args[j]?=some v->Value.okWide Try.prog W .any base t v)
  (hW:DataW.Whole enc Try.prog Try.f4.params.toList Rows.memoryMoresSpec.vars false W args.toList ds gs before) :
  Calls Try.prog 4 args W fun e W' => ∃ v,e = .returned v/\Rows.memoryMoresSpec.post enc Try.prog Try.f4 false true false false W args v W':=by
 have hW':=hW
 obtain ⟨p,q,hA,hV,rfl,hfz,hnd⟩:=hW
 rw [Try.params4] at hA hval
 obtain ⟨v0,vs0,d0,ds0,p0,q0,hargs,rfl,rfl,h0,hA⟩:=trodAll_cons hA
 obtain ⟨v1,vs1,d1,ds1,p1,q1,rfl,rfl,rfl,h1,hA⟩:=trodAll_cons hA
 obtain ⟨v2,vs2,d2,ds2,p2,q2,rfl,rfl,rfl,h2,hA⟩:=trodAll_cons hA
 obtain ⟨rfl,rfl,rfl⟩:=trodAll_nil hA
 obtain rfl:args = #[v0,v1,v2]:=by cases args;simp_all
 obtain ⟨x0,k0,r0⟩:=rdP.arg (pk:=(fun P => .list 1 (eP P))) (fun _=>rfl) (r := .any) (b0:=base) (a2u (hval 0 22 v0 rfl rfl) (by simp [Try.underlying22]) (by simp [Try.underlying22])) h0
 obtain ⟨x1,k1,r1⟩:=rdI.arg (pk:=(.int .i64)) (fun _=>rfl) (r := .any) (b0:=base) (a2u (hval 1 3 v1 rfl rfl) (by simp [Try.underlying3]) (by simp [Try.underlying3])) h1
 obtain ⟨x2,k2,r2⟩:=rdI.arg (pk:=(.int .i64)) (fun _=>rfl) (r := .any) (b0:=base) (a2u (hval 2 3 v2 rfl rfl) (by simp [Try.underlying3]) (by simp [Try.underlying3])) h2
 refine row_step laid (fn:=Try.f4) (tb:=4) ?_ rfl Try.underlying4 rfl hW' rfl (M4w rfl (c1u x0 (okP k0).1 (okP k0).2 x1 x2)) rfl ?_
 ·exact of_decide_eq_true (by kernel_rfl)
 ·intro i hi
  match i,hi with
  | 0,_=>exact r0
  | 1,_=>exact r1
  | 2,_=>exact r2
  | i+3,hi=>simp at hi <;> omega
theorem mores_lifted (os:Os) (started:os.Started) (H:Type) (enc:TypeId×Value->H) :
  ReturnsInHanded {} Try.checked os 4 .any (Rows.memoryMoresSpec.pre6 enc Try.prog Try.f4 Rows.memoryMoresRow.domain false) (Rows.memoryMoresSpec.post enc Try.prog Try.f4 false true false false):=by
 refine returnsInHanded_of_change (C:=Try.checked) own started (by kernel_rfl) Try.func4
  (ChangeSpec.witness6 (enc:=enc) (C:=Try.checked) false ⟨#[],#[.slice none 0 0,.int .i64 0,.int .i64 0],[]⟩ 4 (by kernel_rfl) (by kernel_rfl) (by kernel_rfl) (by kernel_rfl)) ?_
 intro W base args ds gs before hval hW _ _
 exact mores_contract H enc W base args ds gs before hval hW
theorem mores_said:Rows.MemoryMoresSaid :=
 OpenClaim.holds_of_wide 4 Try.f4 rfl rfl rfl rfl rfl rfl rfl ⟨rfl,rfl,rfl,rfl,rfl⟩ rfl rfl rfl rfl rfl (by kernel_rfl) Try.func4 (by kernel_rfl)
  (of_decide_eq_true (by kernel_rfl)) (by unfold Func.isWrapper;first | (rw [if_pos (by decide +kernel)];kernel_rfl) | (rw [if_neg (by decide +kernel)];exact ⟨rfl,rfl⟩))
  (fun os started H enc _=>mores_lifted os started H enc)
end Go.Proofs.Ytlljehkmemajkaa
