/- Own text: D1fh. -/
import Derived.Test.YtalfdjihejohoaaD1ga
import Derived.Test.YtalfdjihejohoaaD1fb
set_option maxRecDepth 100000
set_option linter.unusedVariables false
set_option linter.unusedSimpArgs false
namespace Go.Am
open Go Go.Proofs
def wideB (c:List (List Int)):Bool:=c.any (fun r=>decide (40<r.length))||decide (40<c.length)
theorem wide_ok (c:List (List Int)) (hc:c.length<=9223372036854775807):ACall P 37 [.d (dCost c)] [] (AB (wideB c)) []:=by
 obtain ⟨F,hF⟩ : ∃ F,wideB c=F:=⟨_,rfl⟩
 rw [hF]
 unfold wideB at hF
 unfold dCost
 obtain ⟨C,hC⟩ : ∃ X,c.map dRow=X:=⟨_,rfl⟩
 obtain ⟨n,hn⟩ : ∃ n:Int,(C.length:Int)=n:=⟨_,rfl⟩
 have hcn:(c.length:Int)=n:=by rw [<-hn,<-hC];simp
 rw [hC]
 refine ACall.enter hT (fn:=Try.f37) Try.func37 rfl (by decide) (by simp [Try.f37]) rfl rfl rfl rfl (Nat.le_refl _) ?_
 repeat refine AWp.seq ?_
 refine AWp.reg1 {} hT (fun A hA=>by cbv) (Nat.zero_le _) ?_
 try dsimp only [AExit.then,AExit.block]
 repeat refine AWp.seq ?_
 refine AWp.reg1 {} hT (fun A hA=>by
   have f0:=ar_len hA C n hn
   repeat (cbv;simp only [f0])
   cbv) (Nat.zero_le _) ?_
 try dsimp only [AExit.then,AExit.block]
 refine AWp.block (AWp.loopInv (ι:=Int) (fun z=>0<=z/\z<=n /\ ∀ r∈c.take z.toNat,r.length<=40) (fun z=>(n-z).toNat) [0,5,6,7]
  (fun z=>{ env:=[(0,.d (.list 1 C)),(5,.d (.list 1 C)),(6,AI n),(7,AI z)],heap:=[],n:=18 }) 0 (by cbv) ⟨Int.le_refl _,by omega,by simp⟩ ?_)
 rintro z ⟨h0,h1,h2⟩
 by_cases hz:z<n
 ·obtain ⟨r,hr⟩ : ∃ s,c[z.toNat]?=some s:=⟨_,zp1 (by omega)⟩
  obtain ⟨R,hR⟩ : ∃ R,r.map I=R:=⟨_,rfl⟩
  obtain ⟨k,hk⟩ : ∃ n:Int,(R.length:Int)=n:=⟨_,rfl⟩
  have hrk:(r.length:Int)=k:=by rw [<-hk,<-hR];simp
  have hCz:C[z.toNat]?=some (.list 1 R):=by rw [<-hC,List.getElem?_map,hr,<-hR];rfl
  obtain ⟨z1,hz1⟩ : ∃ z1,z+1=z1:=⟨_,rfl⟩
  repeat refine AWp.seq ?_
  refine AWp.reg1 {} hT (fun A hA=>by
    have f0:=ar_lt hA hz
    repeat (cbv;simp only [f0])
    cbv) (Nat.zero_le _) ?_
  try dsimp only [AExit.then,AExit.block]
  repeat refine AWp.seq ?_
  refine AWp.cond (b:=true) rfl (AWp.skip ?_)
  try dsimp only [AExit.then,AExit.block]
  repeat refine AWp.seq ?_
  refine AWp.block ?_
  repeat refine AWp.seq ?_
  refine AWp.reg1 {} hT (fun A hA=>by
    have f0:=ar_get hA hCz
    have f1:=ar_le hA h0
    repeat (cbv;simp only [f0,f1])
    cbv) (Nat.zero_le _) ?_
  try dsimp only [AExit.then,AExit.block]
  by_cases hk40:40<k
  ·rw [List.any_eq_true.2 ⟨r,List.mem_of_getElem? hr,by simp;omega⟩] at hF
   subst hF
   repeat refine AWp.seq ?_
   refine AWp.reg1 {} hT (fun A hA=>by
     have f0:=ar_len hA R k hk
     have f1:=ar_lt hA hk40
     repeat (cbv;simp only [f0,f1])
     cbv) (Nat.zero_le _) ?_
   try dsimp only [AExit.then,AExit.block]
   repeat refine AWp.seq ?_
   refine AWp.cond (b:=true) rfl ?_
   rw [if_pos rfl]
   repeat refine AWp.seq ?_
   refine AWp.reg1 {} hT (fun A hA=>by cbv) (Nat.zero_le _) ?_
   try dsimp only [AExit.then,AExit.block]
   repeat refine AWp.seq ?_
   refine AWp.ret ⟨?_,rfl,rfl,Nat.zero_le _,_,rfl⟩
   rfl
  ·repeat refine AWp.seq ?_
   refine AWp.reg1 {} hT (fun A hA=>by
     have f0:=ar_len hA R k hk
     have f1:=ar_nlt hA hk40
     repeat (cbv;simp only [f0,f1])
     cbv) (Nat.zero_le _) ?_
   try dsimp only [AExit.then,AExit.block]
   repeat refine AWp.seq ?_
   refine AWp.cond (b:=false) rfl (AWp.skip ?_)
   try dsimp only [AExit.then,AExit.block]
   repeat refine AWp.seq ?_
   refine AWp.reg1 {} hT (fun A hA=>by
     have f0:=ar_add hA z 1 z1 hz1 (by omega) (by omega)
     repeat (cbv;simp only [f0])
     cbv) (Nat.zero_le _) ?_
   try dsimp only [AExit.then,AExit.block]
   refine ⟨z1,⟨by omega,by omega,fun w hw => ?_⟩,by omega,by cbv⟩
   rw [show z1.toNat=z.toNat+1 by omega,List.take_add_one,hr] at hw
   simp only [Option.toList_some,List.mem_append,List.mem_singleton] at hw
   rcases hw with hw | rfl
   ·exact h2 w hw
   ·omega
 ·rw [List.take_of_length_le (by omega)] at h2
  rw [List.any_eq_false.2 (fun r hr=>by have:=h2 r hr;simp;omega),Bool.false_or] at hF
  have hlt : ∀ A:Ar,A=Ar.std->A.zlt 40 n=F:=fun A hA=>by
   subst hA;rw [<-hF]
   show decide (40<n)=decide (40<c.length)
   by_cases e:40<n
   ·rw [decide_eq_true e,decide_eq_true (by omega)]
   ·rw [decide_eq_false e,decide_eq_false (by omega)]
  repeat refine AWp.seq ?_
  refine AWp.reg1 {} hT (fun A hA=>by
    have f0:=ar_nlt hA hz
    repeat (cbv;simp only [f0])
    cbv) (Nat.zero_le _) ?_
  try dsimp only [AExit.then,AExit.block]
  repeat refine AWp.seq ?_
  refine AWp.cond (b:=false) rfl (AWp.exit ?_)
  try dsimp only [AExit.then,AExit.block]
  rw [if_pos rfl]
  repeat refine AWp.seq ?_
  refine AWp.reg1 {} hT (fun A hA=>by
    have f0:=ar_len hA C n hn
    have f1:=hlt A hA
    repeat (cbv;simp only [f0,f1])
    cbv) (Nat.zero_le _) ?_
  try dsimp only [AExit.then,AExit.block]
  repeat refine AWp.seq ?_
  refine AWp.ret ⟨?_,rfl,rfl,Nat.zero_le _,_,rfl⟩
  rfl
end Go.Am
