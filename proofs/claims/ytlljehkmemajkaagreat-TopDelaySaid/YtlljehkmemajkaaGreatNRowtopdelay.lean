/- Own text. -/
import Derived.Test.YtlljehkmemajkaaGreatNRd
import Derived.Test.YtlljehkmemajkaaGreatND22
import Derived.Test.YtlljehkmemajkaaGreatGenw6
set_option maxRecDepth 100000
namespace Go.Proofs.YtlljehkmemajkaaGreat
open Go Go.Am Go.ChangeShapes Go.RowKit
theorem topdelay_contract (H:Type) (enc:TypeId×Value->H) (W:World) (base:Nat) (args:Array Value) (ds gs:List (DataW H)) (before:List MemPlace)
  (hval : ∀ (j:Nat) t v,Tryz.f4.params[j]?=some t->args[j]?=some v->Value.okWide Tryz.prog W .any base t v)
  (hW:DataW.Whole enc Tryz.prog Tryz.f4.params.toList Rows.topDelaySpec.vars false W args.toList ds gs before) :
  Calls Tryz.prog 4 args W fun e W' => ∃ v,e = .returned v/\Rows.topDelaySpec.post enc Tryz.prog Tryz.f4 false true false false W args v W':=by
 have hW':=hW
 obtain ⟨p,q,hA,hV,rfl,hfz,hnd⟩:=hW
 rw [Tryz.params4] at hA hval
 obtain ⟨v0,vs0,d0,ds0,p0,q0,hargs,rfl,rfl,h0,hA⟩:=trodAll_cons hA
 obtain ⟨v1,vs1,d1,ds1,p1,q1,rfl,rfl,rfl,h1,hA⟩:=trodAll_cons hA
 obtain ⟨rfl,rfl,rfl⟩:=trodAll_nil hA
 obtain rfl:args = #[v0,v1]:=by cases args;simp_all
 obtain ⟨x0,k0,r0⟩:=rdX.arg (pk:=(fun x => .list 1 (eA x))) (fun _=>rfl) (r := .any) (b0:=base) (a3S (hval 0 22 v0 rfl rfl) (by simp [Tryz.underlying22]) (by simp [Tryz.underlying22])) h0
 obtain ⟨x1,k1,r1⟩:=rdC.arg (pk:=(fun c => .list 1 (a1d c))) (fun _=>rfl) (r := .any) (b0:=base) (a3S (hval 1 32 v1 rfl rfl) (by simp [Tryz.underlying32]) (by simp [Tryz.underlying32])) h1
 refine row_step laid (fn:=Tryz.f4) (tb:=4) ?_ rfl Tryz.underlying4 rfl hW' rfl (N4w rfl (c3N x0 (Nat.lt_of_le_of_lt k0.1 c3Q) (fun t ht=>Nat.lt_of_le_of_lt (k0.2 t ht) c3Q) x1 (Nat.lt_of_le_of_lt k1.1 c3Q))) rfl ?_
 ·exact of_decide_eq_true (by kernel_rfl)
 ·intro i hi
  match i,hi with
  | 0,_=>exact r0
  | 1,_=>exact r1
  | i+2,hi=>simp at hi <;> omega
theorem topdelay_lifted (os:Os) (started:os.Started) (H:Type) (enc:TypeId×Value->H) :
  ReturnsInHanded {} Tryz.checked os 4 .any (Rows.topDelaySpec.pre6 enc Tryz.prog Tryz.f4 Rows.topDelayRow.domain false) (Rows.topDelaySpec.post enc Tryz.prog Tryz.f4 false true false false):=by
 refine returnsInHanded_of_change (C:=Tryz.checked) own started (by kernel_rfl) Tryz.func4
  (ChangeSpec.witness6 (enc:=enc) (C:=Tryz.checked) false ⟨#[],#[.slice none 0 0,.slice none 0 0],[]⟩ 4 (by kernel_rfl) (by kernel_rfl) (by kernel_rfl) (by kernel_rfl)) ?_
 intro W base args ds gs before hval hW _ _
 exact topdelay_contract H enc W base args ds gs before hval hW
theorem topdelay_said:Rows.TopDelaySaid :=
 OpenClaim.holds_of_wide 4 Tryz.f4 rfl rfl rfl rfl rfl rfl rfl ⟨rfl,rfl,rfl,rfl,rfl⟩ rfl rfl rfl rfl rfl (by kernel_rfl) Tryz.func4 (by kernel_rfl)
  (of_decide_eq_true (by kernel_rfl)) (by unfold Func.isWrapper;first | (rw [if_pos (by decide +kernel)];kernel_rfl) | (rw [if_neg (by decide +kernel)];exact ⟨rfl,rfl⟩))
  (fun os started H enc _=>topdelay_lifted os started H enc)
end Go.Proofs.YtlljehkmemajkaaGreat
