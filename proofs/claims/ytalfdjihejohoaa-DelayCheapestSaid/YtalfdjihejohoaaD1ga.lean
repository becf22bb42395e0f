/- Own text: D1ga. -/
import Derived.Test.YtalfdjihejohoaaD1vc
import Derived.Test.YtalfdjihejohoaaD1r
set_option maxRecDepth 100000
set_option linter.unusedVariables false
set_option linter.unusedSimpArgs false
namespace Go.Am
open Go Go.Proofs
abbrev Fen:=Int×Int
def dFen (f:Fen):D := .agg [I f.1,I f.2]
def cmpI (a b:Int):Int:=if a<b then -1 else if b<a then 1 else 0
def cmpF (f g:Fen):Int:=if cmpI f.1 g.1≠0 then cmpI f.1 g.1 else cmpI f.2 g.2
theorem nan_ok (a:Int):ACall P 134 [AI a] [] (AB false) []:=by
 refine ACall.enter hT (fn:=Try.f134) Try.func134 rfl (by decide) (by simp [Try.f134]) rfl rfl rfl rfl (Nat.le_refl _) ?_
 repeat refine AWp.seq ?_
 refine AWp.reg1 {} hT (fun A hA=>by cbv) (Nat.zero_le _) ?_
 try dsimp only [AExit.then,AExit.block]
 repeat refine AWp.seq ?_
 refine AWp.reg1 {} hT (fun A hA=>by
   have f0:=ar_eq hA (rfl:a=a)
   repeat (cbv;simp only [f0])
   cbv) (Nat.zero_le _) ?_
 try dsimp only [AExit.then,AExit.block]
 repeat refine AWp.seq ?_
 refine AWp.ret ⟨?_,rfl,rfl,Nat.zero_le _,_,rfl⟩
 rfl
theorem cmp_ok (a b:Int):ACall P 109 [AI a,AI b] [] (AI (cmpI a b)) []:=by
 have ca:=nan_ok a
 have cb:=nan_ok b
 unfold cmpI
 by_cases h:a<b
 ·rw [if_pos h]
  refine ACall.enter hT (fn:=Try.f109) Try.func109 rfl (by decide) (by simp [Try.f109]) rfl rfl rfl rfl (Nat.le_refl _) ?_
  repeat refine AWp.seq ?_
  refine AWp.reg1 {} hT (fun A hA=>by cbv) (Nat.zero_le _) ?_
  try dsimp only [AExit.then,AExit.block]
  repeat refine AWp.seq ?_
  refine AWp.region ?_
  refine AOps.stepCall hT (an:={}) (fun A hA=>by cbv) (Nat.zero_le _) rfl (.inr rfl) rfl rfl rfl (Nat.le_of_ble_eq_true rfl) rfl rfl (ca) ?_
  refine AOps.done hT (an:={}) (fun A hA=>by cbv) (Nat.zero_le _) ?_
  try dsimp only [AExit.then,AExit.block]
  repeat refine AWp.seq ?_
  refine AWp.region ?_
  refine AOps.stepCall hT (an:={}) (fun A hA=>by cbv) (Nat.zero_le _) rfl (.inr rfl) rfl rfl rfl (Nat.le_of_ble_eq_true rfl) rfl rfl (cb) ?_
  refine AOps.done hT (an:={}) (fun A hA=>by cbv) (Nat.zero_le _) ?_
  try dsimp only [AExit.then,AExit.block]
  repeat refine AWp.seq ?_
  refine AWp.reg1 {} hT (fun A hA=>by cbv) (Nat.zero_le _) ?_
  try dsimp only [AExit.then,AExit.block]
  repeat refine AWp.seq ?_
  refine AWp.cond (b:=false) rfl (AWp.skip ?_)
  try dsimp only [AExit.then,AExit.block]
  repeat refine AWp.seq ?_
  refine AWp.reg1 {} hT (fun A hA=>by cbv) (Nat.zero_le _) ?_
  try dsimp only [AExit.then,AExit.block]
  repeat refine AWp.seq ?_
  refine AWp.cond (b:=false) rfl (AWp.skip ?_)
  try dsimp only [AExit.then,AExit.block]
  repeat refine AWp.seq ?_
  refine AWp.reg1 {} hT (fun A hA=>by
    have f0:=ar_lt hA h
    repeat (cbv;simp only [f0])
    cbv) (Nat.zero_le _) ?_
  try dsimp only [AExit.then,AExit.block]
  repeat refine AWp.seq ?_
  refine AWp.cond (b:=true) rfl ?_
  rw [if_pos rfl]
  repeat refine AWp.seq ?_
  refine AWp.reg1 {} hT (fun A hA=>by cbv) (Nat.zero_le _) ?_
  try dsimp only [AExit.then,AExit.block]
  repeat refine AWp.seq ?_
  refine AWp.ret ⟨?_,rfl,rfl,Nat.zero_le _,_,rfl⟩
  rfl
 ·rw [if_neg h]
  by_cases h2:b<a
  ·rw [if_pos h2]
   refine ACall.enter hT (fn:=Try.f109) Try.func109 rfl (by decide) (by simp [Try.f109]) rfl rfl rfl rfl (Nat.le_refl _) ?_
   repeat refine AWp.seq ?_
   refine AWp.reg1 {} hT (fun A hA=>by cbv) (Nat.zero_le _) ?_
   try dsimp only [AExit.then,AExit.block]
   repeat refine AWp.seq ?_
   refine AWp.region ?_
   refine AOps.stepCall hT (an:={}) (fun A hA=>by cbv) (Nat.zero_le _) rfl (.inr rfl) rfl rfl rfl (Nat.le_of_ble_eq_true rfl) rfl rfl (ca) ?_
   refine AOps.done hT (an:={}) (fun A hA=>by cbv) (Nat.zero_le _) ?_
   try dsimp only [AExit.then,AExit.block]
   repeat refine AWp.seq ?_
   refine AWp.region ?_
   refine AOps.stepCall hT (an:={}) (fun A hA=>by cbv) (Nat.zero_le _) rfl (.inr rfl) rfl rfl rfl (Nat.le_of_ble_eq_true rfl) rfl rfl (cb) ?_
   refine AOps.done hT (an:={}) (fun A hA=>by cbv) (Nat.zero_le _) ?_
   try dsimp only [AExit.then,AExit.block]
   repeat refine AWp.seq ?_
   refine AWp.reg1 {} hT (fun A hA=>by cbv) (Nat.zero_le _) ?_
   try dsimp only [AExit.then,AExit.block]
   repeat refine AWp.seq ?_
   refine AWp.cond (b:=false) rfl (AWp.skip ?_)
   try dsimp only [AExit.then,AExit.block]
   repeat refine AWp.seq ?_
   refine AWp.reg1 {} hT (fun A hA=>by cbv) (Nat.zero_le _) ?_
   try dsimp only [AExit.then,AExit.block]
   repeat refine AWp.seq ?_
   refine AWp.cond (b:=false) rfl (AWp.skip ?_)
   try dsimp only [AExit.then,AExit.block]
   repeat refine AWp.seq ?_
   refine AWp.reg1 {} hT (fun A hA=>by
     have f0:=ar_nlt hA h
     repeat (cbv;simp only [f0])
     cbv) (Nat.zero_le _) ?_
   try dsimp only [AExit.then,AExit.block]
   repeat refine AWp.seq ?_
   refine AWp.cond (b:=false) rfl (AWp.skip ?_)
   try dsimp only [AExit.then,AExit.block]
   repeat refine AWp.seq ?_
   refine AWp.reg1 {} hT (fun A hA=>by
     have f0:=ar_lt hA h2
     repeat (cbv;simp only [f0])
     cbv) (Nat.zero_le _) ?_
   try dsimp only [AExit.then,AExit.block]
   repeat refine AWp.seq ?_
   refine AWp.cond (b:=true) rfl ?_
   rw [if_pos rfl]
   repeat refine AWp.seq ?_
   refine AWp.reg1 {} hT (fun A hA=>by cbv) (Nat.zero_le _) ?_
   try dsimp only [AExit.then,AExit.block]
   repeat refine AWp.seq ?_
   refine AWp.ret ⟨?_,rfl,rfl,Nat.zero_le _,_,rfl⟩
   rfl
  ·rw [if_neg h2]
   refine ACall.enter hT (fn:=Try.f109) Try.func109 rfl (by decide) (by simp [Try.f109]) rfl rfl rfl rfl (Nat.le_refl _) ?_
   repeat refine AWp.seq ?_
   refine AWp.reg1 {} hT (fun A hA=>by cbv) (Nat.zero_le _) ?_
   try dsimp only [AExit.then,AExit.block]
   repeat refine AWp.seq ?_
   refine AWp.region ?_
   refine AOps.stepCall hT (an:={}) (fun A hA=>by cbv) (Nat.zero_le _) rfl (.inr rfl) rfl rfl rfl (Nat.le_of_ble_eq_true rfl) rfl rfl (ca) ?_
   refine AOps.done hT (an:={}) (fun A hA=>by cbv) (Nat.zero_le _) ?_
   try dsimp only [AExit.then,AExit.block]
   repeat refine AWp.seq ?_
   refine AWp.region ?_
   refine AOps.stepCall hT (an:={}) (fun A hA=>by cbv) (Nat.zero_le _) rfl (.inr rfl) rfl rfl rfl (Nat.le_of_ble_eq_true rfl) rfl rfl (cb) ?_
   refine AOps.done hT (an:={}) (fun A hA=>by cbv) (Nat.zero_le _) ?_
   try dsimp only [AExit.then,AExit.block]
   repeat refine AWp.seq ?_
   refine AWp.reg1 {} hT (fun A hA=>by cbv) (Nat.zero_le _) ?_
   try dsimp only [AExit.then,AExit.block]
   repeat refine AWp.seq ?_
   refine AWp.cond (b:=false) rfl (AWp.skip ?_)
   try dsimp only [AExit.then,AExit.block]
   repeat refine AWp.seq ?_
   refine AWp.reg1 {} hT (fun A hA=>by cbv) (Nat.zero_le _) ?_
   try dsimp only [AExit.then,AExit.block]
   repeat refine AWp.seq ?_
   refine AWp.cond (b:=false) rfl (AWp.skip ?_)
   try dsimp only [AExit.then,AExit.block]
   repeat refine AWp.seq ?_
   refine AWp.reg1 {} hT (fun A hA=>by
     have f0:=ar_nlt hA h
     repeat (cbv;simp only [f0])
     cbv) (Nat.zero_le _) ?_
   try dsimp only [AExit.then,AExit.block]
   repeat refine AWp.seq ?_
   refine AWp.cond (b:=false) rfl (AWp.skip ?_)
   try dsimp only [AExit.then,AExit.block]
   repeat refine AWp.seq ?_
   refine AWp.reg1 {} hT (fun A hA=>by
     have f0:=ar_nlt hA h2
     repeat (cbv;simp only [f0])
     cbv) (Nat.zero_le _) ?_
   try dsimp only [AExit.then,AExit.block]
   repeat refine AWp.seq ?_
   refine AWp.cond (b:=false) rfl (AWp.skip ?_)
   try dsimp only [AExit.then,AExit.block]
   repeat refine AWp.seq ?_
   refine AWp.reg1 {} hT (fun A hA=>by cbv) (Nat.zero_le _) ?_
   try dsimp only [AExit.then,AExit.block]
   repeat refine AWp.seq ?_
   refine AWp.ret ⟨?_,rfl,rfl,Nat.zero_le _,_,rfl⟩
   rfl
theorem compare_ok (a b a' b':Int):ACall P 135 [.d (.list 1 [I a,I b]),.d (.list 1 [I a',I b'])] [] (AI (cmpF (a,b) (a',b'))) []:=by
 have c1:=cmp_ok a a'
 have c2:=cmp_ok b b'
 have hF:cmpF (a,b) (a',b')=if cmpI a a'≠0 then cmpI a a' else cmpI b b':=rfl
 obtain ⟨X,hX,hX0,hX1,hXn⟩ : ∃ X,[I a,I b]=X/\X[(0:Int).toNat]?=some (I a)/\X[(1:Int).toNat]?=some (I b)/\(X.length:Int)=2:=⟨_,rfl,rfl,rfl,rfl⟩
 obtain ⟨Y,hY,hY0,hY1,hYn⟩ : ∃ X,[I a',I b']=X/\X[(0:Int).toNat]?=some (I a')/\X[(1:Int).toNat]?=some (I b')/\(X.length:Int)=2:=⟨_,rfl,rfl,rfl,rfl⟩
 rw [hX,hY,hF]
 obtain ⟨q1,hq1⟩ : ∃ q,cmpI a a'=q:=⟨_,rfl⟩
 obtain ⟨q2,hq2⟩ : ∃ q,cmpI b b'=q:=⟨_,rfl⟩
 rw [hq1] at c1 ⊢
 rw [hq2] at c2 ⊢
 refine ACall.enter hT (fn:=Try.f135) Try.func135 rfl (by decide) (by simp [Try.f135]) rfl rfl rfl rfl (Nat.le_refl _) ?_
 repeat refine AWp.seq ?_
 refine AWp.reg1 {} hT (fun A hA=>by cbv) (Nat.zero_le _) ?_
 try dsimp only [AExit.then,AExit.block]
 repeat refine AWp.seq ?_
 refine AWp.reg1 {} hT (fun A hA=>by
   have f0:=ar_len hA X 2 hXn
   repeat (cbv;simp only [f0])
   cbv) (Nat.zero_le _) ?_
 try dsimp only [AExit.then,AExit.block]
 refine AWp.block (AWp.loopInv (ι:=Int) (fun z=>(z=0\/z=1\/z=2)/\(1<=z->q1=0)/\(2<=z->q2=0)) (fun z=>(2-z).toNat) [0,1,9,10,11]
  (fun z=>{ env:=[(0,.d (.list 1 X)),(1,.d (.list 1 Y)),(9,.d (.list 1 X)),(10,AI 2),(11,AI z)],heap:=[],n:=36 }) 0 (by cbv) ⟨.inl rfl,by omega,by omega⟩ ?_)
 rintro z ⟨h0 | h0 | h0,h1,h2⟩
 ·subst h0
  repeat refine AWp.seq ?_
  refine AWp.reg1 {} hT (fun A hA=>by
    have f0:=ar_lt hA (show (0:Int)<2 by omega)
    repeat (cbv;simp only [f0])
    cbv) (Nat.zero_le _) ?_
  try dsimp only [AExit.then,AExit.block]
  repeat refine AWp.seq ?_
  refine AWp.cond (b:=true) rfl (AWp.skip ?_)
  try dsimp only [AExit.then,AExit.block]
  repeat refine AWp.seq ?_
  refine AWp.block ?_
  repeat refine AWp.seq ?_
  refine AWp.reg1 {} hT (fun A hA=>by
    have f0:=ar_get hA hX0
    have f1:=ar_le hA (show (0:Int)<=0 by omega)
    repeat (cbv;simp only [f0,f1])
    cbv) (Nat.zero_le _) ?_
  try dsimp only [AExit.then,AExit.block]
  repeat refine AWp.seq ?_
  refine AWp.reg1 {} hT (fun A hA=>by
    have f0:=ar_len hA Y 2 hYn
    have f1:=ar_nle hA (show ¬ (2:Int)<=0 by omega)
    repeat (cbv;simp only [f0,f1])
    cbv) (Nat.zero_le _) ?_
  try dsimp only [AExit.then,AExit.block]
  repeat refine AWp.seq ?_
  refine AWp.cond (b:=false) rfl (AWp.skip ?_)
  try dsimp only [AExit.then,AExit.block]
  repeat refine AWp.seq ?_
  refine AWp.reg1 {} hT (fun A hA=>by
    have f0:=ar_get hA hY0
    have f1:=ar_le hA (show (0:Int)<=0 by omega)
    repeat (cbv;simp only [f0,f1])
    cbv) (Nat.zero_le _) ?_
  try dsimp only [AExit.then,AExit.block]
  repeat refine AWp.seq ?_
  refine AWp.region ?_
  refine AOps.stepCall hT (an:={}) (fun A hA=>by cbv) (Nat.zero_le _) rfl (.inr rfl) rfl rfl rfl (Nat.le_of_ble_eq_true rfl) rfl rfl (c1) ?_
  refine AOps.done hT (an:={}) (fun A hA=>by cbv) (Nat.zero_le _) ?_
  try dsimp only [AExit.then,AExit.block]
  by_cases e:q1=0
  ·repeat refine AWp.seq ?_
   refine AWp.reg1 {} hT (fun A hA=>by
     have f0:=ar_eq hA e
     repeat (cbv;simp only [f0])
     cbv) (Nat.zero_le _) ?_
   try dsimp only [AExit.then,AExit.block]
   repeat refine AWp.seq ?_
   refine AWp.cond (b:=false) rfl (AWp.skip ?_)
   try dsimp only [AExit.then,AExit.block]
   repeat refine AWp.seq ?_
   refine AWp.reg1 {} hT (fun A hA=>by
     have f0:=ar_add hA 0 1 1 rfl (by omega) (by omega)
     repeat (cbv;simp only [f0])
     cbv) (Nat.zero_le _) ?_
   try dsimp only [AExit.then,AExit.block]
   exact ⟨1,⟨by omega,fun _=>e,by omega⟩,by omega,by cbv⟩
  ·repeat refine AWp.seq ?_
   refine AWp.reg1 {} hT (fun A hA=>by
     have f0:=ar_ne hA e
     repeat (cbv;simp only [f0])
     cbv) (Nat.zero_le _) ?_
   try dsimp only [AExit.then,AExit.block]
   repeat refine AWp.seq ?_
   refine AWp.cond (b:=true) rfl ?_
   rw [if_pos rfl]
   repeat refine AWp.seq ?_
   refine AWp.reg1 {} hT (fun A hA=>by cbv) (Nat.zero_le _) ?_
   try dsimp only [AExit.then,AExit.block]
   repeat refine AWp.seq ?_
   refine AWp.ret ⟨?_,rfl,rfl,Nat.zero_le _,_,rfl⟩
   rw [if_pos e];rfl
 ·subst h0
  have e1:=h1 (by omega)
  repeat refine AWp.seq ?_
  refine AWp.reg1 {} hT (fun A hA=>by
    have f0:=ar_lt hA (show (1:Int)<2 by omega)
    repeat (cbv;simp only [f0])
    cbv) (Nat.zero_le _) ?_
  try dsimp only [AExit.then,AExit.block]
  repeat refine AWp.seq ?_
  refine AWp.cond (b:=true) rfl (AWp.skip ?_)
  try dsimp only [AExit.then,AExit.block]
  repeat refine AWp.seq ?_
  refine AWp.block ?_
  repeat refine AWp.seq ?_
  refine AWp.reg1 {} hT (fun A hA=>by
    have f0:=ar_get hA hX1
    have f1:=ar_le hA (show (0:Int)<=1 by omega)
    repeat (cbv;simp only [f0,f1])
    cbv) (Nat.zero_le _) ?_
  try dsimp only [AExit.then,AExit.block]
  repeat refine AWp.seq ?_
  refine AWp.reg1 {} hT (fun A hA=>by
    have f0:=ar_len hA Y 2 hYn
    have f1:=ar_nle hA (show ¬ (2:Int)<=1 by omega)
    repeat (cbv;simp only [f0,f1])
    cbv) (Nat.zero_le _) ?_
  try dsimp only [AExit.then,AExit.block]
  repeat refine AWp.seq ?_
  refine AWp.cond (b:=false) rfl (AWp.skip ?_)
  try dsimp only [AExit.then,AExit.block]
  repeat refine AWp.seq ?_
  refine AWp.reg1 {} hT (fun A hA=>by
    have f0:=ar_get hA hY1
    have f1:=ar_le hA (show (0:Int)<=1 by omega)
    repeat (cbv;simp only [f0,f1])
    cbv) (Nat.zero_le _) ?_
  try dsimp only [AExit.then,AExit.block]
  repeat refine AWp.seq ?_
  refine AWp.region ?_
  refine AOps.stepCall hT (an:={}) (fun A hA=>by cbv) (Nat.zero_le _) rfl (.inr rfl) rfl rfl rfl (Nat.le_of_ble_eq_true rfl) rfl rfl (c2) ?_
  refine AOps.done hT (an:={}) (fun A hA=>by cbv) (Nat.zero_le _) ?_
  try dsimp only [AExit.then,AExit.block]
  by_cases e:q2=0
  ·repeat refine AWp.seq ?_
   refine AWp.reg1 {} hT (fun A hA=>by
     have f0:=ar_eq hA e
     repeat (cbv;simp only [f0])
     cbv) (Nat.zero_le _) ?_
   try dsimp only [AExit.then,AExit.block]
   repeat refine AWp.seq ?_
   refine AWp.cond (b:=false) rfl (AWp.skip ?_)
   try dsimp only [AExit.then,AExit.block]
   repeat refine AWp.seq ?_
   refine AWp.reg1 {} hT (fun A hA=>by
     have f0:=ar_add hA 1 1 2 rfl (by omega) (by omega)
     repeat (cbv;simp only [f0])
     cbv) (Nat.zero_le _) ?_
   try dsimp only [AExit.then,AExit.block]
   exact ⟨2,⟨by omega,fun _=>e1,fun _=>e⟩,by omega,by cbv⟩
  ·repeat refine AWp.seq ?_
   refine AWp.reg1 {} hT (fun A hA=>by
     have f0:=ar_ne hA e
     repeat (cbv;simp only [f0])
     cbv) (Nat.zero_le _) ?_
   try dsimp only [AExit.then,AExit.block]
   repeat refine AWp.seq ?_
   refine AWp.cond (b:=true) rfl ?_
   rw [if_pos rfl]
   repeat refine AWp.seq ?_
   refine AWp.reg1 {} hT (fun A hA=>by cbv) (Nat.zero_le _) ?_
   try dsimp only [AExit.then,AExit.block]
   repeat refine AWp.seq ?_
   refine AWp.ret ⟨?_,rfl,rfl,Nat.zero_le _,_,rfl⟩
   rw [if_neg (by simpa using e1)];rfl
 ·subst h0
  have e1:=h1 (by omega)
  have e2:=h2 (by omega)
  subst e1 e2
  repeat refine AWp.seq ?_
  refine AWp.reg1 {} hT (fun A hA=>by
    have f0:=ar_nlt hA (show ¬ (2:Int)<2 by omega)
    repeat (cbv;simp only [f0])
    cbv) (Nat.zero_le _) ?_
  try dsimp only [AExit.then,AExit.block]
  repeat refine AWp.seq ?_
  refine AWp.cond (b:=false) rfl (AWp.exit ?_)
  try dsimp only [AExit.then,AExit.block]
  rw [if_pos rfl]
  repeat refine AWp.seq ?_
  refine AWp.reg1 {} hT (fun A hA=>by
    have f0:=ar_len hA X 2 hXn
    have f1:=ar_len hA Y 2 hYn
    have f2:=ar_nlt hA (show ¬ (2:Int)<2 by omega)
    repeat (cbv;simp only [f0,f1,f2])
    cbv) (Nat.zero_le _) ?_
  try dsimp only [AExit.then,AExit.block]
  repeat refine AWp.seq ?_
  refine AWp.cond (b:=false) rfl (AWp.skip ?_)
  try dsimp only [AExit.then,AExit.block]
  repeat refine AWp.seq ?_
  refine AWp.reg1 {} hT (fun A hA=>by cbv) (Nat.zero_le _) ?_
  try dsimp only [AExit.then,AExit.block]
  repeat refine AWp.seq ?_
  refine AWp.ret ⟨?_,rfl,rfl,Nat.zero_le _,_,rfl⟩
  rfl
theorem index128 (l:List Fen) (s:Fen) (hl:l.length<=9223372036854775807) : ∃ r:Int,decide (0<=r)=l.contains s/\ACall P 128 [.d (.list 2 (l.map dFen)),.d (dFen s)] [] (AI r) []:=by
 refine ⟨match l.findIdx? (fun u=>decide (s=u)) with | some i=>(i:Int) | none => -1,?_,?_⟩
 ·cases h:l.findIdx? (fun u=>decide (s=u)) with
  | none =>
    rw [List.findIdx?_eq_none_iff] at h
    have:l.contains s=false:=by
     rw [List.contains_eq_mem,decide_eq_false_iff_not]
     intro hm
     have:=h s hm
     simp at this
    rw [this];rfl
  | some i =>
    obtain ⟨h1,h2,_⟩:=List.findIdx?_eq_some_iff_getElem.1 h
    have:l.contains s=true:=by
     rw [List.contains_eq_mem,decide_eq_true_eq,of_decide_eq_true h2]
     exact zp6 h1
    rw [this];simp
 obtain ⟨X,hX⟩ : ∃ X,l.map dFen=X:=⟨_,rfl⟩
 obtain ⟨n,hn⟩ : ∃ n:Int,(X.length:Int)=n:=⟨_,rfl⟩
 have hln:(l.length:Int)=n:=by rw [<-hn,<-hX];simp
 obtain ⟨a,b⟩:=s
 rw [hX]
 unfold dFen
 dsimp only
 refine ACall.enter hT (fn:=Try.f128) Try.func128 rfl (by decide) (by simp [Try.f128]) rfl rfl rfl rfl (Nat.le_refl _) ?_
 repeat refine AWp.seq ?_
 refine AWp.reg1 {} hT (fun A hA=>by cbv) (Nat.zero_le _) ?_
 try dsimp only [AExit.then,AExit.block]
 repeat refine AWp.seq ?_
 refine AWp.reg1 {} hT (fun A hA=>by
   have f0:=ar_len hA X n hn
   repeat (cbv;simp only [f0])
   cbv) (Nat.zero_le _) ?_
 try dsimp only [AExit.then,AExit.block]
 refine AWp.block (AWp.loopInv (ι:=Int) (fun z=>0<=z/\z<=n /\ ∀ u∈l.take z.toNat,decide ((a,b)=u)=false) (fun z=>(n-z).toNat) [0,3,6,7,8]
  (fun z=>{ env:=[(0,.d (.list 2 X)),(3,.lbox [AI a,AI b]),(6,.d (.list 2 X)),(7,AI n),(8,AI z)],heap:=[],n:=19 }) 0 (by cbv) ⟨Int.le_refl _,by omega,by simp⟩ ?_)
 rintro z ⟨h0,h1,h2⟩
 by_cases hz:z<n
 ·obtain ⟨z1,hz1⟩ : ∃ z1,z+1=z1:=⟨_,rfl⟩
  obtain ⟨⟨a',b'⟩,hs⟩ : ∃ s,l[z.toNat]?=some s:=⟨_,zp1 (by omega)⟩
  have hXs:X[z.toNat]?=some (.agg [I a',I b']):=by rw [<-hX,List.getElem?_map,hs];rfl
  obtain ⟨r,hr⟩ : ∃ r,decide ((a,b)=(a',b'))=r:=⟨_,rfl⟩
  have hdeq : ∀ A:Ar,A=Ar.std->A.deq [I a,I b] [I a',I b']=r:=fun A hA=>ar_deq hA (by rw [<-hr];simp)
  repeat refine AWp.seq ?_
  refine AWp.reg1 {} hT (fun A hA=>by
    have f0:=ar_lt hA hz
    repeat (cbv;simp only [f0])
    cbv) (Nat.zero_le _) ?_
  try dsimp only [AExit.then,AExit.block]
  repeat refine AWp.seq ?_
  refine AWp.cond (b:=true) rfl (AWp.skip ?_)
  try dsimp only [AExit.then,AExit.block]
  repeat refine AWp.seq ?_
  refine AWp.block ?_
  repeat refine AWp.seq ?_
  refine AWp.reg1 {} hT (fun A hA=>by cbv) (Nat.zero_le _) ?_
  try dsimp only [AExit.then,AExit.block]
  cases r with
  | true =>
    repeat refine AWp.seq ?_
    refine AWp.reg1D {} hT rfl (fun A hA=>by
      have f0:=ar_get hA hXs
      have f1:=ar_le hA h0
      have f2:=hdeq A hA
      repeat (cbv;simp only [f0,f1,f2])
      cbv) (by kernel_rfl) (Nat.zero_le _) ?_
    try dsimp only [AExit.then,AExit.block]
    repeat refine AWp.seq ?_
    refine AWp.cond (b:=true) rfl ?_
    rw [if_pos rfl]
    repeat refine AWp.seq ?_
    refine AWp.reg1 {} hT (fun A hA=>by cbv) (Nat.zero_le _) ?_
    try dsimp only [AExit.then,AExit.block]
    repeat refine AWp.seq ?_
    refine AWp.ret ⟨?_,rfl,rfl,Nat.zero_le _,_,rfl⟩
    have:l.findIdx? (fun u=>decide ((a,b)=u))=some z.toNat:=by
     rw [List.findIdx?_eq_some_iff_getElem]
     refine ⟨by omega,?_,fun j hj => ?_⟩
     ·rw [zp1 (by omega)] at hs;injection hs with hs;rw [hs];exact hr
     ·have:=h2 l[j] (by rw [List.mem_take_iff_getElem];exact ⟨j,by omega,rfl⟩)
      rw [this];decide
    rw [this]
    show _=some (AI (z.toNat:Int))
    rw [show (z.toNat:Int)=z by omega]
    rfl
  | false =>
    repeat refine AWp.seq ?_
    refine AWp.reg1D {} hT rfl (fun A hA=>by
      have f0:=ar_get hA hXs
      have f1:=ar_le hA h0
      have f2:=hdeq A hA
      repeat (cbv;simp only [f0,f1,f2])
      cbv) (by kernel_rfl) (Nat.zero_le _) ?_
    try dsimp only [AExit.then,AExit.block]
    repeat refine AWp.seq ?_
    refine AWp.cond (b:=false) rfl (AWp.skip ?_)
    try dsimp only [AExit.then,AExit.block]
    repeat refine AWp.seq ?_
    refine AWp.reg1 {} hT (fun A hA=>by
      have f0:=ar_add hA z 1 z1 hz1 (by omega) (by omega)
      repeat (cbv;simp only [f0])
      cbv) (Nat.zero_le _) ?_
    try dsimp only [AExit.then,AExit.block]
    refine ⟨z1,⟨by omega,by omega,?_⟩,by omega,by cbv⟩
    intro u hu
    rw [show z1.toNat=z.toNat+1 by omega,List.take_add_one,hs] at hu
    simp only [Option.toList_some,List.mem_append,List.mem_singleton] at hu
    rcases hu with hu | rfl
    ·exact h2 u hu
    ·exact hr
 ·repeat refine AWp.seq ?_
  refine AWp.reg1 {} hT (fun A hA=>by
    have f0:=ar_nlt hA hz
    repeat (cbv;simp only [f0])
    cbv) (Nat.zero_le _) ?_
  try dsimp only [AExit.then,AExit.block]
  repeat refine AWp.seq ?_
  refine AWp.cond (b:=false) rfl (AWp.exit ?_)
  try dsimp only [AExit.then,AExit.block]
  rw [if_pos rfl]
  repeat refine AWp.seq ?_
  refine AWp.reg1 {} hT (fun A hA=>by cbv) (Nat.zero_le _) ?_
  try dsimp only [AExit.then,AExit.block]
  repeat refine AWp.seq ?_
  refine AWp.ret ⟨?_,rfl,rfl,Nat.zero_le _,_,rfl⟩
  have:l.findIdx? (fun u=>decide ((a,b)=u))=none:=by
   rw [List.findIdx?_eq_none_iff]
   intro y hy
   exact h2 y (by rw [List.take_of_length_le (by omega)];exact hy)
  rw [this]
  rfl
theorem contains_fen_ok (l:List Fen) (s:Fen) (hl:l.length<=9223372036854775807):ACall P 96 [.d (.list 2 (l.map dFen)),.d (dFen s)] [] (AB (l.contains s)) []:=by
 obtain ⟨r,hr,hc⟩:=index128 l s hl
 obtain ⟨b,hb⟩ : ∃ b,l.contains s=b:=⟨_,rfl⟩
 rw [hb] at hr ⊢
 obtain ⟨X,hX⟩ : ∃ X,l.map dFen=X:=⟨_,rfl⟩
 rw [hX] at hc ⊢
 obtain ⟨a,b'⟩:=s
 unfold dFen at *
 dsimp only at *
 have hrb : ∀ A:Ar,A=Ar.std->A.zle 0 r=b:=fun A hA=>by subst hA;exact hr
 refine ACall.enter hT (fn:=Try.f96) Try.func96 rfl (by decide) (by simp [Try.f96]) rfl rfl rfl rfl (Nat.le_refl _) ?_
 repeat refine AWp.seq ?_
 refine AWp.reg1 {} hT (fun A hA=>by cbv) (Nat.zero_le _) ?_
 try dsimp only [AExit.then,AExit.block]
 repeat refine AWp.seq ?_
 refine AWp.region ?_
 refine AOps.stepCall hT (an:={}) (fun A hA=>by cbv) (Nat.zero_le _) rfl (.inr rfl) rfl rfl rfl (Nat.le_of_ble_eq_true rfl) rfl rfl (hc) ?_
 refine AOps.done hT (an:={}) (fun A hA=>by
   have f0:=hrb A hA
   repeat (cbv;simp only [f0])
   cbv) (Nat.zero_le _) ?_
 try dsimp only [AExit.then,AExit.block]
 repeat refine AWp.seq ?_
 refine AWp.ret ⟨?_,rfl,rfl,Nat.zero_le _,_,rfl⟩
 rfl
def fenRow (t n:Nat):List Fen:=(List.range n).map fun (g:Nat)=>((t:Int),(g:Int))
def fenT (x:List (List Acc)) (n:Nat):List Fen:=(List.range n).flatMap fun t=>fenRow t ((x.getD t []).length-1)
def fencesL (x:List (List Acc)):List Fen:=fenT x x.length
theorem fencesL_ok (x:List (List Acc)) (hx:Small x):ACall P 104 [.d (dX x)] [] (.own 2 ((fencesL x).map dFen)) []:=by
 unfold dX at *
 obtain ⟨X,hX⟩ : ∃ X,x.map dAccs=X:=⟨_,rfl⟩
 obtain ⟨n,hn⟩ : ∃ n:Int,(X.length:Int)=n:=⟨_,rfl⟩
 have hxl:(x.length:Int)=n:=by rw [<-hn,<-hX];simp
 have hs:=hx.1
 rw [hX]
 have hS : ∀ m,fenT x (m+1)=fenT x m++fenRow m ((x.getD m []).length-1):=fun m=>flatMap_range_succ _ _
 have hSA : ∀ t m,fenRow t (m+1)=fenRow t m++[((t:Int),(m:Int))]:=fun t m=>by unfold fenRow;rw [List.range_succ,List.map_append];rfl
 refine ACall.enter hT (fn:=Try.f104) Try.func104 rfl (by decide) (by simp [Try.f104]) rfl rfl rfl rfl (Nat.le_refl _) ?_
 repeat refine AWp.seq ?_
 refine AWp.reg1 {tk:=[2]} hT (fun A hA=>by cbv) (Nat.zero_le _) ?_
 try dsimp only [AExit.then,AExit.block]
 repeat refine AWp.seq ?_
 refine AWp.reg1 {tk:=[3]} hT (fun A hA=>by cbv) (Nat.zero_le _) ?_
 try dsimp only [AExit.then,AExit.block]
 repeat refine AWp.seq ?_
 refine AWp.reg1 {} hT (fun A hA=>by
   have f0:=ar_len hA X n hn
   repeat (cbv;simp only [f0])
   cbv) (Nat.zero_le _) ?_
 try dsimp only [AExit.then,AExit.block]
 refine AWp.block (AWp.loopInv (ι:=Int×List D) (fun p=>0<=p.1/\p.1<=n/\p.2=(fenT x p.1.toNat).map dFen/\p.2.length<=p.1*1000) (fun p=>(n-p.1).toNat) [0,3,7,8,9]
  (fun p=>{ env:=[(0,.d (.list 1 X)),(3,.own 2 p.2),(7,.d (.list 1 X)),(8,AI n),(9,AI p.1)],heap:=[],n:=30 }) (0,[]) (by cbv) ⟨Int.le_refl _,by dsimp only;omega,rfl,by simp⟩ ?_)
 rintro ⟨z,l⟩ ⟨h0,h1,hl,hlen⟩
 dsimp only at *
 by_cases hz:z<n
 ·obtain ⟨L,hL⟩ : ∃ L,x[z.toNat]?=some L:=⟨_,zp1 (by omega)⟩
  obtain ⟨L',hL'⟩ : ∃ L',L.map dAcc=L':=⟨_,rfl⟩
  obtain ⟨k,hk⟩ : ∃ n:Int,(L'.length:Int)=n:=⟨_,rfl⟩
  have hkL:(L.length:Int)=k:=by rw [<-hk,<-hL'];simp
  have hs2:=hx.2 L (List.mem_of_getElem? hL)
  have hXt:X[z.toNat]?=some (.list 2 L'):=by rw [<-hX,List.getElem?_map,hL,<-hL'];rfl
  obtain ⟨z1,hz1⟩ : ∃ z1,z+1=z1:=⟨_,rfl⟩
  obtain ⟨k1,hk1⟩ : ∃ z1,k-1=z1:=⟨_,rfl⟩
  obtain ⟨m,hm⟩ : ∃ m,max 0 k1=m:=⟨_,rfl⟩
  have hmax : ∀ A:Ar,A=Ar.std->A.zmax 0 k1=m:=fun A hA=>by subst hA;rw [<-hm];simp only [Ar.std];split <;> omega
  have hmL:m.toNat=L.length-1:=by omega
  repeat refine AWp.seq ?_
  refine AWp.reg1 {} hT (fun A hA=>by
    have f0:=ar_lt hA hz
    repeat (cbv;simp only [f0])
    cbv) (Nat.zero_le _) ?_
  try dsimp only [AExit.then,AExit.block]
  repeat refine AWp.seq ?_
  refine AWp.cond (b:=true) rfl (AWp.skip ?_)
  try dsimp only [AExit.then,AExit.block]
  repeat refine AWp.seq ?_
  refine AWp.block ?_
  repeat refine AWp.seq ?_
  refine AWp.reg1 {} hT (fun A hA=>by
    have f0:=ar_get hA hXt
    have f1:=ar_le hA h0
    repeat (cbv;simp only [f0,f1])
    cbv) (Nat.zero_le _) ?_
  try dsimp only [AExit.then,AExit.block]
  repeat refine AWp.seq ?_
  refine AWp.reg1 {} hT (fun A hA=>by
    have f0:=ar_len hA L' k hk
    have f1:=ar_sub hA k 1 k1 hk1 (by omega) (by omega)
    have f2:=hmax A hA
    repeat (cbv;simp only [f0,f1,f2])
    cbv) (Nat.zero_le _) ?_
  try dsimp only [AExit.then,AExit.block]
  refine AWp.block (AWp.loopInv (ι:=Int×List D) (fun p=>0<=p.1/\p.1<=m/\p.2=l++(fenRow z.toNat p.1.toNat).map dFen/\p.2.length<=z*1000+p.1) (fun p=>(m-p.1).toNat) [0,3,4,7,8,9,17,18]
   (fun p=>{ env:=[(0,.d (.list 1 X)),(3,.own 2 p.2),(4,AI z),(7,.d (.list 1 X)),(8,AI n),(9,AI z),(17,AI m),(18,AI p.1)],heap:=[],n:=30 }) (0,l) (by cbv) ⟨Int.le_refl _,by dsimp only;omega,by simp [fenRow],by simpa using hlen⟩ ?_)
  rintro ⟨y,l1⟩ ⟨g0,g1,gl,glen⟩
  dsimp only at *
  by_cases hy:y<m
  ·obtain ⟨y1,hy1⟩ : ∃ z1,y+1=z1:=⟨_,rfl⟩
   obtain ⟨l3,hl3⟩ : ∃ l3,l1++[.agg [I z,I y]]=l3:=⟨_,rfl⟩
   repeat refine AWp.seq ?_
   refine AWp.reg1 {} hT (fun A hA=>by
     have f0:=ar_lt hA hy
     repeat (cbv;simp only [f0])
     cbv) (Nat.zero_le _) ?_
   try dsimp only [AExit.then,AExit.block]
   repeat refine AWp.seq ?_
   refine AWp.cond (b:=true) rfl (AWp.skip ?_)
   try dsimp only [AExit.then,AExit.block]
   repeat refine AWp.seq ?_
   refine AWp.block ?_
   repeat refine AWp.seq ?_
   refine AWp.reg1 {} hT (fun A hA=>by cbv) (Nat.zero_le _) ?_
   try dsimp only [AExit.then,AExit.block]
   repeat refine AWp.seq ?_
   refine AWp.reg1 {tk:=[3,21,26]} hT (fun A hA=>by
     have f0:=ar_app hA _ _ _ hl3
     have f1:=ar_fits hA l1 [.agg [I z,I y]] (by simp;omega)
     repeat (cbv;simp only [f0,f1])
     cbv) (Nat.zero_le _) ?_
   try dsimp only [AExit.then,AExit.block]
   repeat refine AWp.seq ?_
   refine AWp.reg1 {} hT (fun A hA=>by
     have f0:=ar_add hA y 1 y1 hy1 (by omega) (by omega)
     repeat (cbv;simp only [f0])
     cbv) (Nat.zero_le _) ?_
   try dsimp only [AExit.then,AExit.block]
   refine ⟨(y1,l3),⟨by dsimp only;omega,by dsimp only;omega,?_,by rw [<-hl3];simp;omega⟩,by dsimp only;omega,by cbv⟩
   dsimp only
   rw [show y1.toNat=y.toNat+1 by omega,hSA,List.map_append,<-List.append_assoc,<-gl,<-hl3,show (z.toNat:Int)=z by omega,show (y.toNat:Int)=y by omega]
   rfl
  ·repeat refine AWp.seq ?_
   refine AWp.reg1 {} hT (fun A hA=>by
     have f0:=ar_nlt hA hy
     repeat (cbv;simp only [f0])
     cbv) (Nat.zero_le _) ?_
   try dsimp only [AExit.then,AExit.block]
   repeat refine AWp.seq ?_
   refine AWp.cond (b:=false) rfl (AWp.exit ?_)
   try dsimp only [AExit.then,AExit.block]
   rw [if_pos rfl]
   repeat refine AWp.seq ?_
   refine AWp.reg1 {} hT (fun A hA=>by
     have f0:=ar_add hA z 1 z1 hz1 (by omega) (by omega)
     repeat (cbv;simp only [f0])
     cbv) (Nat.zero_le _) ?_
   try dsimp only [AExit.then,AExit.block]
   refine ⟨(z1,l1),⟨by dsimp only;omega,by dsimp only;omega,?_,by dsimp only;omega⟩,by dsimp only;omega,by cbv⟩
   dsimp only
   rw [show z1.toNat=z.toNat+1 by omega,hS,List.map_append,<-hl,List.getD_eq_getElem?_getD,hL,gl,show y.toNat=L.length-1 by omega]
   rfl
 ·repeat refine AWp.seq ?_
  refine AWp.reg1 {} hT (fun A hA=>by
    have f0:=ar_nlt hA hz
    repeat (cbv;simp only [f0])
    cbv) (Nat.zero_le _) ?_
  try dsimp only [AExit.then,AExit.block]
  repeat refine AWp.seq ?_
  refine AWp.cond (b:=false) rfl (AWp.exit ?_)
  try dsimp only [AExit.then,AExit.block]
  rw [if_pos rfl]
  repeat refine AWp.seq ?_
  refine AWp.reg1 {tk:=[3,29]} hT (fun A hA=>by cbv) (Nat.zero_le _) ?_
  try dsimp only [AExit.then,AExit.block]
  repeat refine AWp.seq ?_
  refine AWp.ret ⟨?_,rfl,rfl,Nat.zero_le _,_,rfl⟩
  rw [fencesL,show x.length=z.toNat by omega,<-hl];rfl
end Go.Am

namespace Go.Am
open Go Go.Proofs
def fenAt (x:List (List Acc)) (l:List Fen) (i:Nat):Bool:=(fencesL x).contains (l.getD i (0,0))&&(decide (i=0) || !decide (0<=cmpF (l.getD (i-1) (0,0)) (l.getD i (0,0))))
def fencesB (x:List (List Acc)) (l:List Fen):Bool:=(List.range l.length).all (fenAt x l)
theorem fences_ok (x:List (List Acc)) (l:List Fen) (hx:Small x) (hal:(fencesL x).length<=1000000000) (hl:l.length<=1000000000) :
  ACall P 121 [.d (dX x),.d (.list 2 (l.map dFen))] [] (.tuple (if fencesB x l then [.d (.list 2 (l.map dFen)),AB true] else [.d (.list 2 []),AB false])) []:=by
 have call:=fencesL_ok x hx
 have ccn:=fun s=>contains_fen_ok (fencesL x) s (by omega)
 have ccm:=compare_ok
 have hat : ∀ i,fenAt x l i=((fencesL x).contains (l.getD i (0,0))&&(decide (i=0) || !decide (0<=cmpF (l.getD (i-1) (0,0)) (l.getD i (0,0))))):=fun i=>rfl
 obtain ⟨F,hF⟩ : ∃ F,fencesB x l=F:=⟨_,rfl⟩
 rw [hF]
 unfold fencesB at hF
 obtain ⟨at_,hat'⟩ : ∃ f,fenAt x l=f:=⟨_,rfl⟩
 rw [hat'] at hat hF
 obtain ⟨all,hall⟩ : ∃ f,fencesL x=f:=⟨_,rfl⟩
 rw [hall] at call hat
 simp only [hall] at ccn
 obtain ⟨AL,hAL⟩ : ∃ f,all.map dFen=f:=⟨_,rfl⟩
 rw [hAL] at call
 simp only [hAL] at ccn
 obtain ⟨X,hX⟩ : ∃ X,dX x=X:=⟨_,rfl⟩
 obtain ⟨L,hL⟩ : ∃ X,l.map dFen=X:=⟨_,rfl⟩
 obtain ⟨n,hn⟩ : ∃ n:Int,(L.length:Int)=n:=⟨_,rfl⟩
 have hln:(l.length:Int)=n:=by rw [<-hn,<-hL];simp
 rw [hX] at call ⊢
 rw [hL]
 have hno : ∀ i,i<l.length->at_ i=false->F=false:=fun i hi h=>by
  rw [<-hF,List.all_eq_false];exact ⟨i,by simpa using hi,by rw [h];decide⟩
 refine ACall.enter hT (fn:=Try.f121) Try.func121 rfl (by decide) (by simp [Try.f121]) rfl rfl (by cases F <;> rfl) rfl (Nat.le_refl _) ?_
 repeat refine AWp.seq ?_
 refine AWp.reg1 {tk:=[4]} hT (fun A hA=>by cbv) (Nat.zero_le _) ?_
 try dsimp only [AExit.then,AExit.block]
 repeat refine AWp.seq ?_
 refine AWp.region ?_
 refine AOps.stepCall hT (an:={}) (fun A hA=>by cbv) (Nat.zero_le _) rfl (.inr rfl) rfl rfl rfl (Nat.le_of_ble_eq_true rfl) rfl rfl (call) ?_
 refine AOps.done hT (an:={}) (fun A hA=>by cbv) (Nat.zero_le _) ?_
 try dsimp only [AExit.then,AExit.block]
 repeat refine AWp.seq ?_
 refine AWp.reg1 {tk:=[7]} hT (fun A hA=>by cbv) (Nat.zero_le _) ?_
 try dsimp only [AExit.then,AExit.block]
 repeat refine AWp.seq ?_
 refine AWp.reg1 {} hT (fun A hA=>by
   have f0:=ar_len hA L n hn
   repeat (cbv;simp only [f0])
   cbv) (Nat.zero_le _) ?_
 try dsimp only [AExit.then,AExit.block]
 refine AWp.block (AWp.loopInv (ι:=Int×List D) (fun p=>0<=p.1/\p.1<=n/\p.2=L.take p.1.toNat /\ ∀ i,i<p.1.toNat->at_ i=true) (fun p=>(n-p.1).toNat) [1,6,7,12,13,14]
  (fun p=>{ env:=[(1,.d (.list 2 L)),(6,.d (.list 2 AL)),(7,.own 2 p.2),(12,.d (.list 2 L)),(13,AI n),(14,AI p.1)],heap:=[],n:=43 }) (0,[]) (by cbv) ⟨Int.le_refl _,by dsimp only;omega,by simp,by simp⟩ ?_)
 rintro ⟨z,O⟩ ⟨h0,h1,h2,h3⟩
 dsimp only at *
 by_cases hz:z<n
 ·obtain ⟨⟨a,b⟩,hs⟩ : ∃ s,l[z.toNat]?=some s:=⟨_,zp1 (by omega)⟩
  have hLz:L[z.toNat]?=some (.agg [I a,I b]):=by rw [<-hL,List.getElem?_map,hs];rfl
  obtain ⟨z1,hz1⟩ : ∃ z1,z+1=z1:=⟨_,rfl⟩
  have hz1n:z1.toNat=z.toNat+1:=by omega
  have hatz:=hat z.toNat
  rw [List.getD_eq_getElem?_getD (i:=z.toNat),hs] at hatz
  simp only [Option.getD_some] at hatz
  have c1:=ccn (a,b)
  obtain ⟨r1,hr1⟩ : ∃ r,all.contains (a,b)=r:=⟨_,rfl⟩
  rw [hr1] at c1 hatz
  unfold dFen at c1
  dsimp only at c1
  have hno':=hno z.toNat (by omega)
  have hOl:O.length<=1000000000:=by rw [h2];simp;omega
  obtain ⟨O1,hO1⟩ : ∃ l3,O++[.agg [I a,I b]]=l3:=⟨_,rfl⟩
  have hO1':O1=L.take z1.toNat:=by rw [<-hO1,h2,hz1n,List.take_add_one,hLz];rfl
  repeat refine AWp.seq ?_
  refine AWp.reg1 {} hT (fun A hA=>by
    have f0:=ar_lt hA hz
    repeat (cbv;simp only [f0])
    cbv) (Nat.zero_le _) ?_
  try dsimp only [AExit.then,AExit.block]
  repeat refine AWp.seq ?_
  refine AWp.cond (b:=true) rfl (AWp.skip ?_)
  try dsimp only [AExit.then,AExit.block]
  repeat refine AWp.seq ?_
  refine AWp.block ?_
  repeat refine AWp.seq ?_
  refine AWp.reg1 {} hT (fun A hA=>by
    have f0:=ar_get hA hLz
    have f1:=ar_le hA h0
    repeat (cbv;simp only [f0,f1])
    cbv) (Nat.zero_le _) ?_
  try dsimp only [AExit.then,AExit.block]
  refine AWp.freezeBox 9 [I a,I b] rfl rfl ?_
  refine AWp.cut (fun σ'=>at_ z.toNat=true/\σ'.keep [1,6,7,9,12,13,14]={ env:=[(1,.d (.list 2 L)),(6,.d (.list 2 AL)),(7,.own 2 O),(9,.iptr [I a,I b]),(12,.d (.list 2 L)),(13,AI n),(14,AI z)],heap:=[],n:=43 }) ?_ ?_
  ·by_cases hz0:0<z
   ·obtain ⟨⟨a',b'⟩,hs'⟩ : ∃ s,l[(z-1).toNat]?=some s:=⟨_,zp1 (by omega)⟩
    obtain ⟨y,hy⟩ : ∃ y,z-1=y:=⟨_,rfl⟩
    have hLy:L[y.toNat]?=some (.agg [I a',I b']):=by rw [<-hL,List.getElem?_map,<-hy,hs'];rfl
    rw [show z.toNat-1=(z-1).toNat by omega,List.getD_eq_getElem?_getD,hs'] at hatz
    simp only [Option.getD_some] at hatz
    have c2:=ccm a' b' a b
    obtain ⟨q,hq⟩ : ∃ r,cmpF (a',b') (a,b)=r:=⟨_,rfl⟩
    rw [hq] at c2
    simp only [Option.getD_some,hq] at hatz
    obtain ⟨r2,hr2⟩ : ∃ r,decide (0<=q)=r:=⟨_,rfl⟩
    have hle : ∀ A:Ar,A=Ar.std->A.zle 0 q=r2:=fun A hA=>by subst hA;exact hr2
    rw [hr2,show decide (z.toNat=0)=false by simp;omega] at hatz
    repeat refine AWp.seq ?_
    refine AWp.regionDraw rfl (Nat.zero_le _) ?_
    refine DOps.stepCall hT (an:={}) rfl (fun A hA=>by cbv) rfl rfl (Nat.le_of_ble_eq_true rfl) rfl rfl (c1) ?_
    cases r1 with
    | false =>
      refine DOps.done hT (an:={}) rfl (fun A hA=>by
        have f0:=ar_lt hA hz0
        repeat (cbv;simp only [f0])
        cbv) (by kernel_rfl) ?_
      try dsimp only [AExit.then,AExit.block]
      repeat refine AWp.seq ?_
      refine AWp.cond (b:=true) rfl ?_
      rw [if_pos rfl]
      repeat refine AWp.seq ?_
      refine AWp.reg1 {} hT (fun A hA=>by cbv) (Nat.zero_le _) ?_
      try dsimp only [AExit.then,AExit.block]
      obtain rfl:=hno' (by rw [hatz];rfl)
      repeat refine AWp.seq ?_
      refine AWp.ret ⟨?_,rfl,rfl,Nat.zero_le _,_,rfl⟩
      rfl
    | true =>
      refine DOps.stepCall hT (an:={}) rfl (fun A hA=>by
        have f0:=ar_lt hA hz0
        have f1:=ar_sub hA z 1 y hy (by omega) (by omega)
        have f2:=ar_get hA hLy
        have f3:=ar_le hA (show 0<=y by omega)
        repeat (cbv;simp only [f0,f1,f2,f3])
        cbv) rfl rfl (Nat.le_of_ble_eq_true rfl) rfl rfl (c2) ?_
      refine DOps.done hT (an:={}) rfl (fun A hA=>by
        have f0:=hle A hA
        repeat (cbv;simp only [f0])
        cbv) (by kernel_rfl) ?_
      try dsimp only [AExit.then,AExit.block]
      cases r2 with
      | true =>
        repeat refine AWp.seq ?_
        refine AWp.cond (b:=true) rfl ?_
        rw [if_pos rfl]
        repeat refine AWp.seq ?_
        refine AWp.reg1 {} hT (fun A hA=>by cbv) (Nat.zero_le _) ?_
        try dsimp only [AExit.then,AExit.block]
        obtain rfl:=hno' (by rw [hatz];rfl)
        repeat refine AWp.seq ?_
        refine AWp.ret ⟨?_,rfl,rfl,Nat.zero_le _,_,rfl⟩
        rfl
      | false =>
        repeat refine AWp.seq ?_
        refine AWp.cond (b:=false) rfl (AWp.skip ?_)
        try dsimp only [AExit.then,AExit.block]
        exact ⟨by rw [hatz];rfl,by cbv⟩
   ·rw [show decide (z.toNat=0)=true by simp;omega] at hatz
    repeat refine AWp.seq ?_
    refine AWp.regionDraw rfl (Nat.zero_le _) ?_
    refine DOps.stepCall hT (an:={}) rfl (fun A hA=>by cbv) rfl rfl (Nat.le_of_ble_eq_true rfl) rfl rfl (c1) ?_
    cases r1 with
    | false =>
      refine DOps.done hT (an:={}) rfl (fun A hA=>by
        have f0:=ar_nlt hA hz0
        repeat (cbv;simp only [f0])
        cbv) (by kernel_rfl) ?_
      try dsimp only [AExit.then,AExit.block]
      repeat refine AWp.seq ?_
      refine AWp.cond (b:=true) rfl ?_
      rw [if_pos rfl]
      repeat refine AWp.seq ?_
      refine AWp.reg1 {} hT (fun A hA=>by cbv) (Nat.zero_le _) ?_
      try dsimp only [AExit.then,AExit.block]
      obtain rfl:=hno' (by rw [hatz];rfl)
      repeat refine AWp.seq ?_
      refine AWp.ret ⟨?_,rfl,rfl,Nat.zero_le _,_,rfl⟩
      rfl
    | true =>
      refine DOps.done hT (an:={}) rfl (fun A hA=>by
        have f0:=ar_nlt hA hz0
        repeat (cbv;simp only [f0])
        cbv) (by kernel_rfl) ?_
      try dsimp only [AExit.then,AExit.block]
      repeat refine AWp.seq ?_
      refine AWp.cond (b:=false) rfl (AWp.skip ?_)
      try dsimp only [AExit.then,AExit.block]
      exact ⟨by rw [hatz];rfl,by cbv⟩
  ·rintro σ1 ⟨hatt,hσ1⟩
   refine AWp.keep [1,6,7,9,12,13,14] ?_
   rw [hσ1]
   repeat refine AWp.seq ?_
   refine AWp.reg1 {tk:=[7,37,40]} hT (fun A hA=>by
     have f0:=ar_app hA _ _ _ hO1
     have f1:=ar_fits hA O [.agg [I a,I b]] (by simp;omega)
     repeat (cbv;simp only [f0,f1])
     cbv) (Nat.zero_le _) ?_
   try dsimp only [AExit.then,AExit.block]
   repeat refine AWp.seq ?_
   refine AWp.reg1 {} hT (fun A hA=>by
     have f0:=ar_add hA z 1 z1 hz1 (by omega) (by omega)
     repeat (cbv;simp only [f0])
     cbv) (Nat.zero_le _) ?_
   try dsimp only [AExit.then,AExit.block]
   refine ⟨(z1,O1),⟨by dsimp only;omega,by dsimp only;omega,hO1',fun i hi => ?_⟩,by dsimp only;omega,by cbv⟩
   dsimp only at hi
   rcases Nat.lt_or_ge i z.toNat with h | h
   ·exact h3 i h
   ·rw [show i=z.toNat by omega,hatt]
 ·have hFt:F=true:=by
   rw [<-hF,List.all_eq_true]
   exact fun i hi=>h3 i (by have:=List.mem_range.1 hi;omega)
  subst hFt
  rw [List.take_of_length_le (by omega)] at h2
  subst h2
  repeat refine AWp.seq ?_
  refine AWp.reg1 {} hT (fun A hA=>by
    have f0:=ar_nlt hA hz
    repeat (cbv;simp only [f0])
    cbv) (Nat.zero_le _) ?_
  try dsimp only [AExit.then,AExit.block]
  repeat refine AWp.seq ?_
  refine AWp.cond (b:=false) rfl (AWp.exit ?_)
  try dsimp only [AExit.then,AExit.block]
  rw [if_pos rfl]
  repeat refine AWp.seq ?_
  refine AWp.reg1 {tk:=[7,42]} hT (fun A hA=>by cbv) (Nat.zero_le _) ?_
  try dsimp only [AExit.then,AExit.block]
  repeat refine AWp.seq ?_
  refine AWp.ret ⟨?_,rfl,rfl,Nat.zero_le _,_,rfl⟩
  rfl
end Go.Am

namespace Go.Am
open Go Go.Proofs
theorem index119 (x:List (Fen)) (hx:x.length<=9223372036854775807) (f:FuncId) (bs:List AV) (H:List Obj) (p:Fen->Bool) (hin:objsInb H.length H=true) (hbs:inbL H.length bs=true) (hbf:bs.all AV.free=true)
  (hp : ∀ l∈x,ACall P f (.d (dFen l)::bs) H (AB (p l)) H) : ∃ r:Int,(decide (0<=r)=x.any p)/\ACall P 136 [.d (.list 2 (x.map dFen)),.func f [] bs] H (AI r) H:=by
 refine ⟨match x.findIdx? p with | some i=>(i:Int) | none => -1,?_,?_⟩
 ·cases h:x.findIdx? p with
  | none =>
    rw [List.findIdx?_eq_none_iff] at h
    have:x.any p=false:=List.any_eq_false.2 (fun y hy=>by rw [h y hy];exact Bool.false_ne_true)
    rw [this];rfl
  | some i =>
    obtain ⟨h1,h2,_⟩:=List.findIdx?_eq_some_iff_getElem.1 h
    have:x.any p=true:=List.any_eq_true.2 ⟨_,zp6 h1,h2⟩
    rw [this];simp
 obtain ⟨X,hX⟩ : ∃ X,x.map dFen=X:=⟨_,rfl⟩
 obtain ⟨n,hn⟩ : ∃ n:Int,(X.length:Int)=n:=⟨_,rfl⟩
 have hxl:(x.length:Int)=n:=by rw [<-hn,<-hX];simp
 rw [hX]
 refine ACall.enter hT (fn:=Try.f136) Try.func136 rfl (by decide) (by simp [Try.f136]) rfl rfl rfl hin (Nat.le_refl _) ?_
 repeat refine AWp.seq ?_
 refine AWp.reg1 {} hT (fun A hA=>by cbv) (Nat.le_refl _) ?_
 try dsimp only [AExit.then,AExit.block]
 repeat refine AWp.seq ?_
 refine AWp.reg1 {} hT (fun A hA=>by
   have f0:=ar_len hA X n hn
   repeat (cbv;simp only [f0])
   cbv) (Nat.le_refl _) ?_
 try dsimp only [AExit.then,AExit.block]
 refine AWp.block (AWp.loopInv (ι:=Int) (fun z=>0<=z/\z<=n /\ ∀ l∈x.take z.toNat,p l=false) (fun z=>(n-z).toNat) [0,1,6,7,8]
  (fun z=>{ env:=[(0,.d (.list 2 X)),(1,.func f [] bs),(6,.d (.list 2 X)),(7,AI n),(8,AI z)],heap:=H,n:=19 }) 0 (by cbv) ⟨Int.le_refl _,by omega,by simp⟩ ?_)
 rintro z ⟨h0,h1,h2⟩
 by_cases hz:z<n
 ·obtain ⟨L,hL⟩ : ∃ L,x[z.toNat]?=some L:=⟨_,zp1 (by omega)⟩
  have hLm:=hp L (List.mem_of_getElem? hL)
  have hXt:X[z.toNat]?=some (dFen L):=by rw [<-hX,List.getElem?_map,hL];rfl
  obtain ⟨b,hb⟩ : ∃ b,p L=b:=⟨_,rfl⟩
  rw [hb] at hLm

  obtain ⟨v,w⟩:=L
  unfold dFen at hXt hLm
  dsimp only at hXt hLm
  obtain ⟨z1,hz1⟩ : ∃ z1,z+1=z1:=⟨_,rfl⟩
  repeat refine AWp.seq ?_
  refine AWp.reg1 {} hT (fun A hA=>by
    have f0:=ar_lt hA hz
    repeat (cbv;simp only [f0])
    cbv) (Nat.le_refl _) ?_
  try dsimp only [AExit.then,AExit.block]
  repeat refine AWp.seq ?_
  refine AWp.cond (b:=true) rfl (AWp.skip ?_)
  try dsimp only [AExit.then,AExit.block]
  repeat refine AWp.seq ?_
  refine AWp.block ?_
  repeat refine AWp.seq ?_
  refine AWp.reg1 {} hT (fun A hA=>by cbv) (Nat.le_refl _) ?_
  try dsimp only [AExit.then,AExit.block]
  repeat refine AWp.seq ?_
  refine AWp.region ?_
  refine AOps.stepCallW hT (an:={}) (fun A hA=>by
    have f0:=ar_get hA hXt
    have f1:=ar_le hA h0
    repeat (cbv;simp only [f0,f1])
    cbv) (Nat.le_refl _) (by first | rfl | exact hin) (by first | rfl | simp [inbL,AV.inb,hbs]) rfl (Nat.le_of_ble_eq_true rfl) rfl (by first | rfl | simp [AV.free,hbf]) (hLm) ?_
  refine AOps.done hT (an:={}) (fun A hA=>by cbv) (Nat.le_refl _) ?_
  try dsimp only [AExit.then,AExit.block]
  cases b with
  | true =>
    repeat refine AWp.seq ?_
    refine AWp.cond (b:=true) rfl ?_
    rw [if_pos rfl]
    repeat refine AWp.seq ?_
    refine AWp.reg1 {} hT (fun A hA=>by cbv) (Nat.le_refl _) ?_
    try dsimp only [AExit.then,AExit.block]
    refine AWp.ret ⟨?_,rfl,hin,Nat.le_refl _,[],by simp⟩
    have:x.findIdx? p=some z.toNat:=by
     rw [List.findIdx?_eq_some_iff_getElem]
     refine ⟨by omega,?_,fun j hj => ?_⟩
     ·rw [zp1 (by omega)] at hL;injection hL with hL;rw [hL];exact hb
     ·have:=h2 x[j] (by rw [List.mem_take_iff_getElem];exact ⟨j,by omega,rfl⟩)
      simp [this]
    rw [this]
    show _=some (AI (z.toNat:Int))
    rw [show (z.toNat:Int)=z by omega]
    rfl
  | false =>
    repeat refine AWp.seq ?_
    refine AWp.cond (b:=false) rfl (AWp.skip ?_)
    try dsimp only [AExit.then,AExit.block]
    repeat refine AWp.seq ?_
    refine AWp.reg1 {} hT (fun A hA=>by
      have f0:=ar_add hA z 1 z1 hz1 (by omega) (by omega)
      repeat (cbv;simp only [f0])
      cbv) (Nat.le_refl _) ?_
    try dsimp only [AExit.then,AExit.block]
    refine ⟨z1,⟨by omega,by omega,?_⟩,by omega,by cbv⟩
    intro l hl
    rw [show z1.toNat=z.toNat+1 by omega,List.take_add_one,hL] at hl
    simp at hl
    rcases hl with hl | rfl
    ·exact h2 l hl
    ·exact hb
 ·repeat refine AWp.seq ?_
  refine AWp.reg1 {} hT (fun A hA=>by
    have f0:=ar_nlt hA hz
    repeat (cbv;simp only [f0])
    cbv) (Nat.le_refl _) ?_
  try dsimp only [AExit.then,AExit.block]
  repeat refine AWp.seq ?_
  refine AWp.cond (b:=false) rfl (AWp.exit ?_)
  try dsimp only [AExit.then,AExit.block]
  rw [if_pos rfl]
  repeat refine AWp.seq ?_
  refine AWp.reg1 {} hT (fun A hA=>by cbv) (Nat.le_refl _) ?_
  try dsimp only [AExit.then,AExit.block]
  refine AWp.ret ⟨?_,rfl,hin,Nat.le_refl _,[],by simp⟩
  have:x.findIdx? p=none:=by
   rw [List.findIdx?_eq_none_iff]
   intro y hy
   exact h2 y (by rw [List.take_of_length_le (by omega)];exact hy)
  rw [this]
  rfl
theorem contains119 (x:List (Fen)) (hx:x.length<=9223372036854775807) (f:FuncId) (bs:List AV) (H:List Obj) (p:Fen->Bool) (hin:objsInb H.length H=true) (hbs:inbL H.length bs=true) (hbf:bs.all AV.free=true)
  (hp : ∀ l∈x,ACall P f (.d (dFen l)::bs) H (AB (p l)) H):ACall P 123 [.d (.list 2 (x.map dFen)),.func f [] bs] H (AB (x.any p)) H:=by
 obtain ⟨r,hr,hc⟩:=index119 x hx f bs H p hin hbs hbf hp
 obtain ⟨b,hb⟩ : ∃ b,x.any p=b:=⟨_,rfl⟩
 rw [hb] at hr ⊢
 obtain ⟨X,hX⟩ : ∃ X,x.map dFen=X:=⟨_,rfl⟩
 rw [hX] at hc ⊢
 refine ACall.enter hT (fn:=Try.f123) Try.func123 rfl (by decide) (by simp [Try.f123]) rfl rfl rfl hin (Nat.le_refl _) ?_
 repeat refine AWp.seq ?_
 refine AWp.reg1 {} hT (fun A hA=>by cbv) (Nat.le_refl _) ?_
 try dsimp only [AExit.then,AExit.block]
 repeat refine AWp.seq ?_
 refine AWp.region ?_
 refine AOps.stepCallW hT (an:={}) (fun A hA=>by cbv) (Nat.le_refl _) (by first | rfl | exact hin) (by first | rfl | simp [inbL,AV.inb,hbs]) rfl (Nat.le_of_ble_eq_true rfl) rfl (by first | rfl | simp [AV.free,hbf]) (hc) ?_
 have hrb : ∀ A:Ar,A=Ar.std->A.zle 0 r=b:=fun A hA=>by subst hA;exact hr
 refine AOps.done hT (an:={}) (fun A hA=>by
   have f0:=hrb A hA
   repeat (cbv;simp only [f0])
   cbv) (Nat.le_refl _) ?_
 try dsimp only [AExit.then,AExit.block]
 refine AWp.ret ⟨rfl,rfl,hin,Nat.le_refl _,[],by simp⟩
theorem indexI (x:List (Int)) (hx:x.length<=9223372036854775807) (f:FuncId) (bs:List AV) (H:List Obj) (p:Int->Bool) (hin:objsInb H.length H=true) (hbs:inbL H.length bs=true) (hbf:bs.all AV.free=true)
  (hp : ∀ l∈x,ACall P f (.d (I l)::bs) H (AB (p l)) H) : ∃ r:Int,(decide (0<=r)=x.any p)/\ACall P 132 [.d (.list 1 (x.map I)),.func f [] bs] H (AI r) H:=by
 refine ⟨match x.findIdx? p with | some i=>(i:Int) | none => -1,?_,?_⟩
 ·cases h:x.findIdx? p with
  | none =>
    rw [List.findIdx?_eq_none_iff] at h
    have:x.any p=false:=List.any_eq_false.2 (fun y hy=>by rw [h y hy];exact Bool.false_ne_true)
    rw [this];rfl
  | some i =>
    obtain ⟨h1,h2,_⟩:=List.findIdx?_eq_some_iff_getElem.1 h
    have:x.any p=true:=List.any_eq_true.2 ⟨_,zp6 h1,h2⟩
    rw [this];simp
 obtain ⟨X,hX⟩ : ∃ X,x.map I=X:=⟨_,rfl⟩
 obtain ⟨n,hn⟩ : ∃ n:Int,(X.length:Int)=n:=⟨_,rfl⟩
 have hxl:(x.length:Int)=n:=by rw [<-hn,<-hX];simp
 rw [hX]
 refine ACall.enter hT (fn:=Try.f132) Try.func132 rfl (by decide) (by simp [Try.f132]) rfl rfl rfl hin (Nat.le_refl _) ?_
 repeat refine AWp.seq ?_
 refine AWp.reg1 {} hT (fun A hA=>by cbv) (Nat.le_refl _) ?_
 try dsimp only [AExit.then,AExit.block]
 repeat refine AWp.seq ?_
 refine AWp.reg1 {} hT (fun A hA=>by
   have f0:=ar_len hA X n hn
   repeat (cbv;simp only [f0])
   cbv) (Nat.le_refl _) ?_
 try dsimp only [AExit.then,AExit.block]
 refine AWp.block (AWp.loopInv (ι:=Int) (fun z=>0<=z/\z<=n /\ ∀ l∈x.take z.toNat,p l=false) (fun z=>(n-z).toNat) [0,1,6,7,8]
  (fun z=>{ env:=[(0,.d (.list 1 X)),(1,.func f [] bs),(6,.d (.list 1 X)),(7,AI n),(8,AI z)],heap:=H,n:=19 }) 0 (by cbv) ⟨Int.le_refl _,by omega,by simp⟩ ?_)
 rintro z ⟨h0,h1,h2⟩
 by_cases hz:z<n
 ·obtain ⟨L,hL⟩ : ∃ L,x[z.toNat]?=some L:=⟨_,zp1 (by omega)⟩
  have hLm:=hp L (List.mem_of_getElem? hL)
  have hXt:X[z.toNat]?=some (I L):=by rw [<-hX,List.getElem?_map,hL];rfl
  obtain ⟨b,hb⟩ : ∃ b,p L=b:=⟨_,rfl⟩
  rw [hb] at hLm

  skip
  obtain ⟨z1,hz1⟩ : ∃ z1,z+1=z1:=⟨_,rfl⟩
  repeat refine AWp.seq ?_
  refine AWp.reg1 {} hT (fun A hA=>by
    have f0:=ar_lt hA hz
    repeat (cbv;simp only [f0])
    cbv) (Nat.le_refl _) ?_
  try dsimp only [AExit.then,AExit.block]
  repeat refine AWp.seq ?_
  refine AWp.cond (b:=true) rfl (AWp.skip ?_)
  try dsimp only [AExit.then,AExit.block]
  repeat refine AWp.seq ?_
  refine AWp.block ?_
  repeat refine AWp.seq ?_
  refine AWp.reg1 {} hT (fun A hA=>by cbv) (Nat.le_refl _) ?_
  try dsimp only [AExit.then,AExit.block]
  repeat refine AWp.seq ?_
  refine AWp.region ?_
  refine AOps.stepCallW hT (an:={}) (fun A hA=>by
    have f0:=ar_get hA hXt
    have f1:=ar_le hA h0
    repeat (cbv;simp only [f0,f1])
    cbv) (Nat.le_refl _) (by first | rfl | exact hin) (by first | rfl | simp [inbL,AV.inb,hbs]) rfl (Nat.le_of_ble_eq_true rfl) rfl (by first | rfl | simp [AV.free,hbf]) (hLm) ?_
  refine AOps.done hT (an:={}) (fun A hA=>by cbv) (Nat.le_refl _) ?_
  try dsimp only [AExit.then,AExit.block]
  cases b with
  | true =>
    repeat refine AWp.seq ?_
    refine AWp.cond (b:=true) rfl ?_
    rw [if_pos rfl]
    repeat refine AWp.seq ?_
    refine AWp.reg1 {} hT (fun A hA=>by cbv) (Nat.le_refl _) ?_
    try dsimp only [AExit.then,AExit.block]
    refine AWp.ret ⟨?_,rfl,hin,Nat.le_refl _,[],by simp⟩
    have:x.findIdx? p=some z.toNat:=by
     rw [List.findIdx?_eq_some_iff_getElem]
     refine ⟨by omega,?_,fun j hj => ?_⟩
     ·rw [zp1 (by omega)] at hL;injection hL with hL;rw [hL];exact hb
     ·have:=h2 x[j] (by rw [List.mem_take_iff_getElem];exact ⟨j,by omega,rfl⟩)
      simp [this]
    rw [this]
    show _=some (AI (z.toNat:Int))
    rw [show (z.toNat:Int)=z by omega]
    rfl
  | false =>
    repeat refine AWp.seq ?_
    refine AWp.cond (b:=false) rfl (AWp.skip ?_)
    try dsimp only [AExit.then,AExit.block]
    repeat refine AWp.seq ?_
    refine AWp.reg1 {} hT (fun A hA=>by
      have f0:=ar_add hA z 1 z1 hz1 (by omega) (by omega)
      repeat (cbv;simp only [f0])
      cbv) (Nat.le_refl _) ?_
    try dsimp only [AExit.then,AExit.block]
    refine ⟨z1,⟨by omega,by omega,?_⟩,by omega,by cbv⟩
    intro l hl
    rw [show z1.toNat=z.toNat+1 by omega,List.take_add_one,hL] at hl
    simp at hl
    rcases hl with hl | rfl
    ·exact h2 l hl
    ·exact hb
 ·repeat refine AWp.seq ?_
  refine AWp.reg1 {} hT (fun A hA=>by
    have f0:=ar_nlt hA hz
    repeat (cbv;simp only [f0])
    cbv) (Nat.le_refl _) ?_
  try dsimp only [AExit.then,AExit.block]
  repeat refine AWp.seq ?_
  refine AWp.cond (b:=false) rfl (AWp.exit ?_)
  try dsimp only [AExit.then,AExit.block]
  rw [if_pos rfl]
  repeat refine AWp.seq ?_
  refine AWp.reg1 {} hT (fun A hA=>by cbv) (Nat.le_refl _) ?_
  try dsimp only [AExit.then,AExit.block]
  refine AWp.ret ⟨?_,rfl,hin,Nat.le_refl _,[],by simp⟩
  have:x.findIdx? p=none:=by
   rw [List.findIdx?_eq_none_iff]
   intro y hy
   exact h2 y (by rw [List.take_of_length_le (by omega)];exact hy)
  rw [this]
  rfl
theorem containsI (x:List (Int)) (hx:x.length<=9223372036854775807) (f:FuncId) (bs:List AV) (H:List Obj) (p:Int->Bool) (hin:objsInb H.length H=true) (hbs:inbL H.length bs=true) (hbf:bs.all AV.free=true)
  (hp : ∀ l∈x,ACall P f (.d (I l)::bs) H (AB (p l)) H):ACall P 102 [.d (.list 1 (x.map I)),.func f [] bs] H (AB (x.any p)) H:=by
 obtain ⟨r,hr,hc⟩:=indexI x hx f bs H p hin hbs hbf hp
 obtain ⟨b,hb⟩ : ∃ b,x.any p=b:=⟨_,rfl⟩
 rw [hb] at hr ⊢
 obtain ⟨X,hX⟩ : ∃ X,x.map I=X:=⟨_,rfl⟩
 rw [hX] at hc ⊢
 refine ACall.enter hT (fn:=Try.f102) Try.func102 rfl (by decide) (by simp [Try.f102]) rfl rfl rfl hin (Nat.le_refl _) ?_
 repeat refine AWp.seq ?_
 refine AWp.reg1 {} hT (fun A hA=>by cbv) (Nat.le_refl _) ?_
 try dsimp only [AExit.then,AExit.block]
 repeat refine AWp.seq ?_
 refine AWp.region ?_
 refine AOps.stepCallW hT (an:={}) (fun A hA=>by cbv) (Nat.le_refl _) (by first | rfl | exact hin) (by first | rfl | simp [inbL,AV.inb,hbs]) rfl (Nat.le_of_ble_eq_true rfl) rfl (by first | rfl | simp [AV.free,hbf]) (hc) ?_
 have hrb : ∀ A:Ar,A=Ar.std->A.zle 0 r=b:=fun A hA=>by subst hA;exact hr
 refine AOps.done hT (an:={}) (fun A hA=>by
   have f0:=hrb A hA
   repeat (cbv;simp only [f0])
   cbv) (Nat.le_refl _) ?_
 try dsimp only [AExit.then,AExit.block]
 refine AWp.ret ⟨rfl,rfl,hin,Nat.le_refl _,[],by simp⟩
end Go.Am

namespace Go.Am
open Go Go.Proofs
end Go.Am

namespace Go.Am
open Go Go.Proofs
def fencedT (x:List (List Acc)) (l:List Fen):List Fen×Int:=if valid x then (if fencesB x l then (l,0) else ([],2)) else ([],90)
theorem fencesL_48 {x:List (List Acc)} (h:valid x=true):(fencesL x).length<=12:=by
 obtain ⟨_,h3,h4⟩:=valid_sizes h
 have hrow : ∀ t,(fenRow t ((x.getD t []).length-1)).length<=4:=fun t=>by
  unfold fenRow
  rw [List.length_map,List.length_range]
  rw [List.getD_eq_getElem?_getD]
  cases hx:x[t]? with
  | none=>simp
  | some r=>have:=(h4 r (List.mem_of_getElem? hx)).1;simp;omega
 have : ∀ n,(fenT x n).length<=4*n:=by
  intro n
  induction n with
  | zero=>simp [fenT]
  | succ n ih =>
    have e:fenT x (n+1)=fenT x n++fenRow n ((x.getD n []).length-1):=flatMap_range_succ _ _
    rw [e,List.length_append]
    have:=hrow n
    omega
 have:=this x.length
 unfold fencesL
 omega
theorem fenced_ok (x:List (List Acc)) (l:List Fen) (hx:Big x) (hl:l.length<=1000000000) :
  ACall P 85 [.d (dX x),.d (.list 2 (l.map dFen))] [] (.tuple [.d (.list 2 ((fencedT x l).1.map dFen)),AI (fencedT x l).2]) []:=by
 have cv:=valid_ok x hx
 unfold fencedT
 cases hv:valid x with
 | false =>
   rw [hv] at cv
   simp only [Bool.false_eq_true,if_false,List.map_nil]
   obtain ⟨X,hX⟩ : ∃ X,dX x=X:=⟨_,rfl⟩
   obtain ⟨L,hL⟩ : ∃ X,l.map dFen=X:=⟨_,rfl⟩
   rw [hX] at cv ⊢
   rw [hL]
   refine ACall.enter hT (fn:=Try.f85) Try.func85 rfl (by decide) (by simp [Try.f85]) rfl rfl rfl rfl (Nat.le_refl _) ?_
   repeat refine AWp.seq ?_
   refine AWp.reg1 {} hT (fun A hA=>by cbv) (Nat.zero_le _) ?_
   try dsimp only [AExit.then,AExit.block]
   repeat refine AWp.seq ?_
   refine AWp.region ?_
   refine AOps.stepCall hT (an:={}) (fun A hA=>by cbv) (Nat.zero_le _) rfl (.inr rfl) rfl rfl rfl (Nat.le_of_ble_eq_true rfl) rfl rfl (cv) ?_
   refine AOps.done hT (an:={}) (fun A hA=>by cbv) (Nat.zero_le _) ?_
   try dsimp only [AExit.then,AExit.block]
   repeat refine AWp.seq ?_
   refine AWp.cond (b:=true) rfl ?_
   rw [if_pos rfl]
   repeat refine AWp.seq ?_
   refine AWp.reg1 {} hT (fun A hA=>by cbv) (Nat.zero_le _) ?_
   try dsimp only [AExit.then,AExit.block]
   repeat refine AWp.seq ?_
   refine AWp.ret ⟨?_,rfl,rfl,Nat.zero_le _,_,rfl⟩
   rfl
 | true =>
   have hs:=valid_small hv
   have h12:=fencesL_48 hv
   rw [hv] at cv
   have cf:=fences_ok x l hs (by omega) hl
   simp only [if_true]
   cases hF:fencesB x l with
   | false =>
     rw [hF] at cf
     simp only [Bool.false_eq_true,if_false,List.map_nil] at cf ⊢
     obtain ⟨X,hX⟩ : ∃ X,dX x=X:=⟨_,rfl⟩
     obtain ⟨L,hL⟩ : ∃ X,l.map dFen=X:=⟨_,rfl⟩
     rw [hX] at cv cf ⊢
     rw [hL] at cf ⊢
     refine ACall.enter hT (fn:=Try.f85) Try.func85 rfl (by decide) (by simp [Try.f85]) rfl rfl rfl rfl (Nat.le_refl _) ?_
     repeat refine AWp.seq ?_
     refine AWp.reg1 {} hT (fun A hA=>by cbv) (Nat.zero_le _) ?_
     try dsimp only [AExit.then,AExit.block]
     repeat refine AWp.seq ?_
     refine AWp.region ?_
     refine AOps.stepCall hT (an:={}) (fun A hA=>by cbv) (Nat.zero_le _) rfl (.inr rfl) rfl rfl rfl (Nat.le_of_ble_eq_true rfl) rfl rfl (cv) ?_
     refine AOps.done hT (an:={}) (fun A hA=>by cbv) (Nat.zero_le _) ?_
     try dsimp only [AExit.then,AExit.block]
     repeat refine AWp.seq ?_
     refine AWp.cond (b:=false) rfl (AWp.skip ?_)
     try dsimp only [AExit.then,AExit.block]
     repeat refine AWp.seq ?_
     refine AWp.region ?_
     refine AOps.stepCall hT (an:={}) (fun A hA=>by cbv) (Nat.zero_le _) rfl (.inr rfl) rfl rfl rfl (Nat.le_of_ble_eq_true rfl) rfl rfl (cf) ?_
     refine AOps.done hT (an:={}) (fun A hA=>by cbv) (Nat.zero_le _) ?_
     try dsimp only [AExit.then,AExit.block]
     repeat refine AWp.seq ?_
     refine AWp.reg1 {} hT (fun A hA=>by cbv) (Nat.zero_le _) ?_
     try dsimp only [AExit.then,AExit.block]
     repeat refine AWp.seq ?_
     refine AWp.cond (b:=true) rfl ?_
     rw [if_pos rfl]
     repeat refine AWp.seq ?_
     refine AWp.reg1 {} hT (fun A hA=>by cbv) (Nat.zero_le _) ?_
     try dsimp only [AExit.then,AExit.block]
     repeat refine AWp.seq ?_
     refine AWp.ret ⟨?_,rfl,rfl,Nat.zero_le _,_,rfl⟩
     rfl
   | true =>
     rw [hF] at cf
     simp only [if_true] at cf ⊢
     obtain ⟨X,hX⟩ : ∃ X,dX x=X:=⟨_,rfl⟩
     obtain ⟨L,hL⟩ : ∃ X,l.map dFen=X:=⟨_,rfl⟩
     rw [hX] at cv cf ⊢
     rw [hL] at cf ⊢
     refine ACall.enter hT (fn:=Try.f85) Try.func85 rfl (by decide) (by simp [Try.f85]) rfl rfl rfl rfl (Nat.le_refl _) ?_
     repeat refine AWp.seq ?_
     refine AWp.reg1 {} hT (fun A hA=>by cbv) (Nat.zero_le _) ?_
     try dsimp only [AExit.then,AExit.block]
     repeat refine AWp.seq ?_
     refine AWp.region ?_
     refine AOps.stepCall hT (an:={}) (fun A hA=>by cbv) (Nat.zero_le _) rfl (.inr rfl) rfl rfl rfl (Nat.le_of_ble_eq_true rfl) rfl rfl (cv) ?_
     refine AOps.done hT (an:={}) (fun A hA=>by cbv) (Nat.zero_le _) ?_
     try dsimp only [AExit.then,AExit.block]
     repeat refine AWp.seq ?_
     refine AWp.cond (b:=false) rfl (AWp.skip ?_)
     try dsimp only [AExit.then,AExit.block]
     repeat refine AWp.seq ?_
     refine AWp.region ?_
     refine AOps.stepCall hT (an:={}) (fun A hA=>by cbv) (Nat.zero_le _) rfl (.inr rfl) rfl rfl rfl (Nat.le_of_ble_eq_true rfl) rfl rfl (cf) ?_
     refine AOps.done hT (an:={}) (fun A hA=>by cbv) (Nat.zero_le _) ?_
     try dsimp only [AExit.then,AExit.block]
     repeat refine AWp.seq ?_
     refine AWp.reg1 {} hT (fun A hA=>by cbv) (Nat.zero_le _) ?_
     try dsimp only [AExit.then,AExit.block]
     repeat refine AWp.seq ?_
     refine AWp.cond (b:=false) rfl (AWp.skip ?_)
     try dsimp only [AExit.then,AExit.block]
     repeat refine AWp.seq ?_
     refine AWp.reg1 {} hT (fun A hA=>by cbv) (Nat.zero_le _) ?_
     try dsimp only [AExit.then,AExit.block]
     repeat refine AWp.seq ?_
     refine AWp.ret ⟨?_,rfl,rfl,Nat.zero_le _,_,rfl⟩
     rfl
def holdsF (f:Fen) (s:Sta):Bool:=decide (f.1=s.1)&&decide (s.2.1<=f.2)&&decide (f.2<s.2.2)
theorem holds_ok (f:Fen) (s:Sta):ACall P 105 [.d (dFen f),.d (dSta s)] [] (AB (holdsF f s)) []:=by
 obtain ⟨u,g⟩:=f
 obtain ⟨t,a,b⟩:=s
 unfold dFen dSta holdsF
 dsimp only
 obtain ⟨e1,h1⟩ : ∃ e,decide (u=t)=e:=⟨_,rfl⟩
 obtain ⟨e2,h2⟩ : ∃ e,decide (a<=g)=e:=⟨_,rfl⟩
 obtain ⟨e3,h3⟩ : ∃ e,decide (g<b)=e:=⟨_,rfl⟩
 have k1 : ∀ A:Ar,A=Ar.std->A.zeq u t=e1:=fun A hA=>by subst hA;exact h1
 have k2 : ∀ A:Ar,A=Ar.std->A.zle a g=e2:=fun A hA=>by subst hA;exact h2
 have k3 : ∀ A:Ar,A=Ar.std->A.zlt g b=e3:=fun A hA=>by subst hA;exact h3
 rw [h1,h2,h3]
 cases e1 with
 | false =>
   refine ACall.enter hT (fn:=Try.f105) Try.func105 rfl (by decide) (by simp [Try.f105]) rfl rfl rfl rfl (Nat.le_refl _) ?_
   repeat refine AWp.seq ?_
   refine AWp.reg1 {} hT (fun A hA=>by cbv) (Nat.zero_le _) ?_
   try dsimp only [AExit.then,AExit.block]
   repeat refine AWp.seq ?_
   refine AWp.reg1 {} hT (fun A hA=>by
     have f0:=k1 A hA
     repeat (cbv;simp only [f0])
     cbv) (Nat.zero_le _) ?_
   try dsimp only [AExit.then,AExit.block]
   repeat refine AWp.seq ?_
   refine AWp.ret ⟨?_,rfl,rfl,Nat.zero_le _,_,rfl⟩
   rfl
 | true =>
   cases e2 with
   | false =>
     refine ACall.enter hT (fn:=Try.f105) Try.func105 rfl (by decide) (by simp [Try.f105]) rfl rfl rfl rfl (Nat.le_refl _) ?_
     repeat refine AWp.seq ?_
     refine AWp.reg1 {} hT (fun A hA=>by cbv) (Nat.zero_le _) ?_
     try dsimp only [AExit.then,AExit.block]
     repeat refine AWp.seq ?_
     refine AWp.reg1 {} hT (fun A hA=>by
       have f0:=k1 A hA
       have f1:=k2 A hA
       repeat (cbv;simp only [f0,f1])
       cbv) (Nat.zero_le _) ?_
     try dsimp only [AExit.then,AExit.block]
     repeat refine AWp.seq ?_
     refine AWp.ret ⟨?_,rfl,rfl,Nat.zero_le _,_,rfl⟩
     rfl
   | true =>
     refine ACall.enter hT (fn:=Try.f105) Try.func105 rfl (by decide) (by simp [Try.f105]) rfl rfl rfl rfl (Nat.le_refl _) ?_
     repeat refine AWp.seq ?_
     refine AWp.reg1 {} hT (fun A hA=>by cbv) (Nat.zero_le _) ?_
     try dsimp only [AExit.then,AExit.block]
     repeat refine AWp.seq ?_
     refine AWp.reg1 {} hT (fun A hA=>by
       have f0:=k1 A hA
       have f1:=k2 A hA
       have f2:=k3 A hA
       repeat (cbv;simp only [f0,f1,f2])
       cbv) (Nat.zero_le _) ?_
     try dsimp only [AExit.then,AExit.block]
     repeat refine AWp.seq ?_
     refine AWp.ret ⟨?_,rfl,rfl,Nat.zero_le _,_,rfl⟩
     rfl
theorem held1_ok (f:Fen) (s:Sta):ACall P 124 [.d (dFen f),.ptr 0 0] [.cells [AI s.1,AI s.2.1,AI s.2.2]] (AB (holdsF f s)) [.cells [AI s.1,AI s.2.1,AI s.2.2]]:=by
 have ch:=holds_ok f s
 obtain ⟨r,hr⟩ : ∃ r,holdsF f s=r:=⟨_,rfl⟩
 rw [hr] at ch ⊢
 obtain ⟨u,g⟩:=f
 obtain ⟨t,a,b⟩:=s
 unfold dFen dSta at *
 dsimp only at *
 refine ACall.enter hT (fn:=Try.f124) Try.func124 rfl (by decide) (by simp [Try.f124]) rfl rfl rfl rfl (Nat.le_refl _) ?_
 repeat refine AWp.seq ?_
 refine AWp.reg1 {} hT (fun A hA=>by cbv) (Nat.le_of_ble_eq_true rfl) ?_
 try dsimp only [AExit.then,AExit.block]
 repeat refine AWp.seq ?_
 refine AWp.region ?_
 refine AOps.stepCall hT (an:={}) (fun A hA=>by cbv) (Nat.le_of_ble_eq_true rfl) rfl (.inr rfl) rfl rfl rfl (Nat.le_of_ble_eq_true rfl) rfl rfl (ch) ?_
 refine AOps.done hT (an:={}) (fun A hA=>by cbv) (Nat.le_of_ble_eq_true rfl) ?_
 try dsimp only [AExit.then,AExit.block]
 refine AWp.ret ⟨rfl,rfl,rfl,Nat.le_refl _,[],by simp⟩
def heldF (l:List Fen) (s:Sta):Bool:=l.any fun f=>holdsF f s
theorem held_ok (l:List Fen) (s:Sta) (hl:l.length<=1000000000):ACall P 88 [.d (.list 2 (l.map dFen)),.d (dSta s)] [] (AB (heldF l s)) []:=by
 have cc:=contains119 l (by omega) 124 [.ptr 0 0] [.cells [AI s.1,AI s.2.1,AI s.2.2]] (fun f=>holdsF f s) rfl rfl rfl (fun f _=>held1_ok f s)
 unfold heldF
 obtain ⟨r,hr⟩ : ∃ r,l.any (fun f=>holdsF f s)=r:=⟨_,rfl⟩
 obtain ⟨L,hL⟩ : ∃ X,l.map dFen=X:=⟨_,rfl⟩
 rw [hr] at cc ⊢
 rw [hL] at cc ⊢
 obtain ⟨t,a,b⟩:=s
 unfold dSta
 dsimp only at *
 refine ACall.enter hT (fn:=Try.f88) Try.func88 rfl (by decide) (by simp [Try.f88]) rfl rfl rfl rfl (Nat.le_refl _) ?_
 repeat refine AWp.seq ?_
 refine AWp.reg1 {esc:=[3]} hT (fun A hA=>by cbv) (Nat.zero_le _) ?_
 try dsimp only [AExit.then,AExit.block]
 repeat refine AWp.seq ?_
 refine AWp.region ?_
 refine AOps.stepCallW hT (an:={}) (fun A hA=>by cbv) (Nat.zero_le _) (by first | rfl | exact hin) (by first | rfl | simp [inbL,AV.inb,hbs]) rfl (Nat.le_of_ble_eq_true rfl) rfl (by first | rfl | simp [AV.free,hbf]) (cc) ?_
 refine AOps.done hT (an:={}) (fun A hA=>by cbv) (Nat.zero_le _) ?_
 try dsimp only [AExit.then,AExit.block]
 refine AWp.ret ⟨rfl,rfl,rfl,Nat.zero_le _,_,rfl⟩
theorem enough1_ok (l:List Fen) (s:Sta) (hl:l.length<=1000000000):ACall P 126 [.d (dSta s),.ptr 0 0] [.cells [.d (.list 2 (l.map dFen))]] (AB (!heldF l s)) [.cells [.d (.list 2 (l.map dFen))]]:=by
 have ch:=held_ok l s hl
 obtain ⟨r,hr⟩ : ∃ r,heldF l s=r:=⟨_,rfl⟩
 obtain ⟨L,hL⟩ : ∃ X,l.map dFen=X:=⟨_,rfl⟩
 rw [hr] at ch ⊢
 rw [hL] at ch ⊢
 obtain ⟨t,a,b⟩:=s
 unfold dSta at *
 dsimp only at *
 refine ACall.enter hT (fn:=Try.f126) Try.func126 rfl (by decide) (by simp [Try.f126]) rfl rfl rfl rfl (Nat.le_refl _) ?_
 repeat refine AWp.seq ?_
 refine AWp.reg1 {} hT (fun A hA=>by cbv) (Nat.le_of_ble_eq_true rfl) ?_
 try dsimp only [AExit.then,AExit.block]
 repeat refine AWp.seq ?_
 refine AWp.region ?_
 refine AOps.stepCall hT (an:={}) (fun A hA=>by cbv) (Nat.le_of_ble_eq_true rfl) rfl (.inr rfl) rfl rfl rfl (Nat.le_of_ble_eq_true rfl) rfl rfl (ch) ?_
 refine AOps.done hT (an:={}) (fun A hA=>by cbv) (Nat.le_of_ble_eq_true rfl) ?_
 try dsimp only [AExit.then,AExit.block]
 refine AWp.ret ⟨rfl,rfl,rfl,Nat.le_refl _,[],by simp⟩
def enoughF (l:List Fen) (p:List Sta):Bool:=p.all (heldF l)
theorem enough_ok (l:List Fen) (p:List Sta) (hl:l.length<=1000000000) (hp:p.length<=1000000000):ACall P 91 [.d (.list 2 (l.map dFen)),.d (.list 3 (p.map dSta))] [] (AB (enoughF l p)) []:=by
 have cc:=contains98 p (by omega) 126 [.ptr 0 0] [.cells [.d (.list 2 (l.map dFen))]] (fun s => !heldF l s) rfl rfl rfl (fun s _=>enough1_ok l s hl)
 have he:(!p.any fun s => !heldF l s)=enoughF l p:=by unfold enoughF;rw [List.not_any_eq_all_not];simp
 obtain ⟨r,hr⟩ : ∃ r,(p.any fun s => !heldF l s)=r:=⟨_,rfl⟩
 rw [hr] at cc he
 rw [<-he]
 obtain ⟨L,hL⟩ : ∃ X,l.map dFen=X:=⟨_,rfl⟩
 obtain ⟨Q,hQ⟩ : ∃ X,p.map dSta=X:=⟨_,rfl⟩
 rw [hL,hQ] at cc
 rw [hL,hQ]
 refine ACall.enter hT (fn:=Try.f91) Try.func91 rfl (by decide) (by simp [Try.f91]) rfl rfl rfl rfl (Nat.le_refl _) ?_
 repeat refine AWp.seq ?_
 refine AWp.reg1 {esc:=[2]} hT (fun A hA=>by cbv) (Nat.zero_le _) ?_
 try dsimp only [AExit.then,AExit.block]
 repeat refine AWp.seq ?_
 refine AWp.region ?_
 refine AOps.stepCallW hT (an:={}) (fun A hA=>by cbv) (Nat.zero_le _) (by first | rfl | exact hin) (by first | rfl | simp [inbL,AV.inb,hbs]) rfl (Nat.le_of_ble_eq_true rfl) rfl (by first | rfl | simp [AV.free,hbf]) (cc) ?_
 refine AOps.done hT (an:={}) (fun A hA=>by cbv) (Nat.zero_le _) ?_
 try dsimp only [AExit.then,AExit.block]
 refine AWp.ret ⟨rfl,rfl,rfl,Nat.zero_le _,_,rfl⟩
end Go.Am

namespace Go.Am
open Go Go.Proofs
end Go.Am

namespace Go.Am
open Go Go.Proofs
def dRow (l:List Int):D := .list 1 (l.map I)
def dCost (c:List (List Int)):D := .list 1 (c.map dRow)
def in19 (n:Int):Bool:=decide (1<=n)&&decide (n<=9)
def prAt (x:List (List Acc)) (c:List (List Int)) (t:Nat):Bool :=
 decide (t<x.length)&&decide ((c.getD t []).length=(x.getD t []).length-1)&&(c.getD t []).all in19
def pricedB (x:List (List Acc)) (c:List (List Int)):Bool:=(List.range c.length).all (prAt x c)&&decide (c.length=x.length)
theorem priced1_ok (n:Int):ACall P 127 [AI n] [] (AB (!in19 n)) []:=by
 have cb:=between_ok 1 n 9
 unfold in19
 obtain ⟨r,hr⟩ : ∃ r,(decide (1<=n)&&decide (n<=9))=r:=⟨_,rfl⟩
 rw [hr] at cb ⊢
 refine ACall.enter hT (fn:=Try.f127) Try.func127 rfl (by decide) (by simp [Try.f127]) rfl rfl rfl rfl (Nat.le_refl _) ?_
 repeat refine AWp.seq ?_
 refine AWp.reg1 {} hT (fun A hA=>by cbv) (Nat.zero_le _) ?_
 try dsimp only [AExit.then,AExit.block]
 repeat refine AWp.seq ?_
 refine AWp.region ?_
 refine AOps.stepCall hT (an:={}) (fun A hA=>by cbv) (Nat.zero_le _) rfl (.inr rfl) rfl rfl rfl (Nat.le_of_ble_eq_true rfl) rfl rfl (cb) ?_
 refine AOps.done hT (an:={}) (fun A hA=>by cbv) (Nat.zero_le _) ?_
 try dsimp only [AExit.then,AExit.block]
 repeat refine AWp.seq ?_
 refine AWp.ret ⟨?_,rfl,rfl,Nat.zero_le _,_,rfl⟩
 rfl
theorem priced_ok (x:List (List Acc)) (c:List (List Int)) (hx:Small x) (hc:c.length<=1000000000) (hcr : ∀ r∈c,r.length<=9223372036854775807):ACall P 93 [.d (dX x),.d (dCost c)] [] (AB (pricedB x c)) []:=by
 have cin:=fun (r:List Int) (h:r.length<=9223372036854775807)=>containsI r h 127 [] [] (fun n => !in19 n) rfl rfl rfl (fun n _=>priced1_ok n)
 have hpr : ∀ t,prAt x c t=(decide (t<x.length)&&decide ((c.getD t []).length=(x.getD t []).length-1)&&(c.getD t []).all in19):=fun t=>rfl
 obtain ⟨F,hF⟩ : ∃ F,pricedB x c=F:=⟨_,rfl⟩
 rw [hF]
 unfold pricedB at hF
 obtain ⟨pr,hpr'⟩ : ∃ f,prAt x c=f:=⟨_,rfl⟩
 rw [hpr'] at hpr hF
 unfold dX dCost
 obtain ⟨X,hX⟩ : ∃ X,x.map dAccs=X:=⟨_,rfl⟩
 obtain ⟨C,hC⟩ : ∃ X,c.map dRow=X:=⟨_,rfl⟩
 obtain ⟨m,hm⟩ : ∃ n:Int,(X.length:Int)=n:=⟨_,rfl⟩
 obtain ⟨n,hn⟩ : ∃ n:Int,(C.length:Int)=n:=⟨_,rfl⟩
 have hxm:(x.length:Int)=m:=by rw [<-hm,<-hX];simp
 have hcn:(c.length:Int)=n:=by rw [<-hn,<-hC];simp
 have hno : ∀ i,i<c.length->pr i=false->F=false:=fun i hi h=>by
  rw [<-hF,List.all_eq_false.2 ⟨i,by simpa using hi,by rw [h];decide⟩];rfl
 rw [hX,hC]
 refine ACall.enter hT (fn:=Try.f93) Try.func93 rfl (by decide) (by simp [Try.f93]) rfl rfl rfl rfl (Nat.le_refl _) ?_
 repeat refine AWp.seq ?_
 refine AWp.reg1 {} hT (fun A hA=>by cbv) (Nat.zero_le _) ?_
 try dsimp only [AExit.then,AExit.block]
 repeat refine AWp.seq ?_
 refine AWp.reg1 {} hT (fun A hA=>by
   have f0:=ar_len hA C n hn
   repeat (cbv;simp only [f0])
   cbv) (Nat.zero_le _) ?_
 try dsimp only [AExit.then,AExit.block]
 refine AWp.block (AWp.loopInv (ι:=Int) (fun z=>0<=z/\z<=n /\ ∀ i,i<z.toNat->pr i=true) (fun z=>(n-z).toNat) [0,1,7,8,9]
  (fun z=>{ env:=[(0,.d (.list 1 X)),(1,.d (.list 1 C)),(7,.d (.list 1 C)),(8,AI n),(9,AI z)],heap:=[],n:=40 }) 0 (by cbv) ⟨Int.le_refl _,by omega,by simp⟩ ?_)
 rintro z ⟨h0,h1,h2⟩
 by_cases hz:z<n
 ·obtain ⟨r,hr⟩ : ∃ s,c[z.toNat]?=some s:=⟨_,zp1 (by omega)⟩
  obtain ⟨R,hR⟩ : ∃ R,r.map I=R:=⟨_,rfl⟩
  obtain ⟨k,hk⟩ : ∃ n:Int,(R.length:Int)=n:=⟨_,rfl⟩
  have hrk:(r.length:Int)=k:=by rw [<-hk,<-hR];simp
  have hCz:C[z.toNat]?=some (.list 1 R):=by rw [<-hC,List.getElem?_map,hr,<-hR];rfl
  have hcc:=cin r (hcr r (List.mem_of_getElem? hr))
  obtain ⟨z1,hz1⟩ : ∃ z1,z+1=z1:=⟨_,rfl⟩
  have hprz:=hpr z.toNat
  rw [List.getD_eq_getElem?_getD (i:=z.toNat) (l:=c),hr] at hprz
  simp only [Option.getD_some] at hprz
  have hno':=hno z.toNat (by omega)
  have hal:r.all in19 = !r.any fun n => !in19 n:=by rw [List.not_any_eq_all_not];simp
  obtain ⟨bad,hbad⟩ : ∃ b,(r.any fun n => !in19 n)=b:=⟨_,rfl⟩
  rw [hbad] at hcc hal
  rw [hR] at hcc
  rw [hal] at hprz
  repeat refine AWp.seq ?_
  refine AWp.reg1 {} hT (fun A hA=>by
    have f0:=ar_lt hA hz
    repeat (cbv;simp only [f0])
    cbv) (Nat.zero_le _) ?_
  try dsimp only [AExit.then,AExit.block]
  repeat refine AWp.seq ?_
  refine AWp.cond (b:=true) rfl (AWp.skip ?_)
  try dsimp only [AExit.then,AExit.block]
  repeat refine AWp.seq ?_
  refine AWp.block ?_
  repeat refine AWp.seq ?_
  refine AWp.reg1 {} hT (fun A hA=>by
    have f0:=ar_get hA hCz
    have f1:=ar_le hA h0
    repeat (cbv;simp only [f0,f1])
    cbv) (Nat.zero_le _) ?_
  try dsimp only [AExit.then,AExit.block]
  by_cases hzm:m<=z
  ·rw [show decide (z.toNat<x.length)=false by simp;omega] at hprz
   repeat refine AWp.seq ?_
   refine AWp.reg1 {} hT (fun A hA=>by
     have f0:=ar_len hA X m hm
     have f1:=ar_le hA hzm
     repeat (cbv;simp only [f0,f1])
     cbv) (Nat.zero_le _) ?_
   try dsimp only [AExit.then,AExit.block]
   repeat refine AWp.seq ?_
   refine AWp.cond (b:=true) rfl ?_
   rw [if_pos rfl]
   repeat refine AWp.seq ?_
   refine AWp.reg1 {} hT (fun A hA=>by cbv) (Nat.zero_le _) ?_
   try dsimp only [AExit.then,AExit.block]
   obtain rfl:=hno' (by rw [hprz];simp)
   repeat refine AWp.seq ?_
   refine AWp.ret ⟨?_,rfl,rfl,Nat.zero_le _,_,rfl⟩
   rfl
  ·rw [show decide (z.toNat<x.length)=true by simp;omega] at hprz
   obtain ⟨L,hL⟩ : ∃ L,x[z.toNat]?=some L:=⟨_,zp1 (by omega)⟩
   obtain ⟨L',hL'⟩ : ∃ L',L.map dAcc=L':=⟨_,rfl⟩
   obtain ⟨j,hj⟩ : ∃ n:Int,(L'.length:Int)=n:=⟨_,rfl⟩
   have hjL:(L.length:Int)=j:=by rw [<-hj,<-hL'];simp
   have hs2:=hx.2 L (List.mem_of_getElem? hL)
   have hXt:X[z.toNat]?=some (.list 2 L'):=by rw [<-hX,List.getElem?_map,hL,<-hL'];rfl
   obtain ⟨j1,hj1⟩ : ∃ z1,j-1=z1:=⟨_,rfl⟩
   obtain ⟨q,hq⟩ : ∃ m,max 0 j1=m:=⟨_,rfl⟩
   have hmax : ∀ A:Ar,A=Ar.std->A.zmax 0 j1=q:=fun A hA=>by subst hA;rw [<-hq];simp only [Ar.std];split <;> omega
   rw [List.getD_eq_getElem?_getD,hL] at hprz
   simp only [Option.getD_some] at hprz
   by_cases hkq:k=q
   ·rw [show decide (r.length=L.length-1)=true by simp;omega] at hprz
    repeat refine AWp.seq ?_
    refine AWp.region ?_
    refine AOps.stepCall hT (an:={}) (fun A hA=>by
      have f0:=ar_len hA X m hm
      have f1:=ar_nle hA hzm
      have f2:=ar_len hA R k hk
      have f3:=ar_get hA hXt
      have f4:=ar_le hA h0
      have f5:=ar_len hA L' j hj
      have f6:=ar_sub hA j 1 j1 hj1 (by omega) (by omega)
      have f7:=hmax A hA
      have f8:=ar_eq hA hkq
      repeat (cbv;simp only [f0,f1,f2,f3,f4,f5,f6,f7,f8])
      cbv) (Nat.zero_le _) rfl (.inr rfl) rfl rfl rfl (Nat.le_of_ble_eq_true rfl) rfl rfl (hcc) ?_
    refine AOps.done hT (an:={}) (fun A hA=>by cbv) (Nat.zero_le _) ?_
    try dsimp only [AExit.then,AExit.block]
    cases bad with
    | true =>
      repeat refine AWp.seq ?_
      refine AWp.cond (b:=true) rfl ?_
      rw [if_pos rfl]
      repeat refine AWp.seq ?_
      refine AWp.reg1 {} hT (fun A hA=>by cbv) (Nat.zero_le _) ?_
      try dsimp only [AExit.then,AExit.block]
      obtain rfl:=hno' (by rw [hprz];rfl)
      repeat refine AWp.seq ?_
      refine AWp.ret ⟨?_,rfl,rfl,Nat.zero_le _,_,rfl⟩
      rfl
    | false =>
      repeat refine AWp.seq ?_
      refine AWp.cond (b:=false) rfl (AWp.skip ?_)
      try dsimp only [AExit.then,AExit.block]
      repeat refine AWp.seq ?_
      refine AWp.reg1 {} hT (fun A hA=>by
        have f0:=ar_add hA z 1 z1 hz1 (by omega) (by omega)
        repeat (cbv;simp only [f0])
        cbv) (Nat.zero_le _) ?_
      try dsimp only [AExit.then,AExit.block]
      refine ⟨z1,⟨by omega,by omega,fun i hi => ?_⟩,by omega,by cbv⟩
      rcases Nat.lt_or_ge i z.toNat with h | h
      ·exact h2 i h
      ·rw [show i=z.toNat by omega,hprz];rfl
   ·rw [show decide (r.length=L.length-1)=false by simp;omega] at hprz
    repeat refine AWp.seq ?_
    refine AWp.reg1 {} hT (fun A hA=>by
      have f0:=ar_len hA X m hm
      have f1:=ar_nle hA hzm
      have f2:=ar_len hA R k hk
      have f3:=ar_get hA hXt
      have f4:=ar_le hA h0
      have f5:=ar_len hA L' j hj
      have f6:=ar_sub hA j 1 j1 hj1 (by omega) (by omega)
      have f7:=hmax A hA
      have f8:=ar_ne hA hkq
      repeat (cbv;simp only [f0,f1,f2,f3,f4,f5,f6,f7,f8])
      cbv) (Nat.zero_le _) ?_
    try dsimp only [AExit.then,AExit.block]
    repeat refine AWp.seq ?_
    refine AWp.cond (b:=true) rfl ?_
    rw [if_pos rfl]
    repeat refine AWp.seq ?_
    refine AWp.reg1 {} hT (fun A hA=>by cbv) (Nat.zero_le _) ?_
    try dsimp only [AExit.then,AExit.block]
    obtain rfl:=hno' (by rw [hprz];rfl)
    repeat refine AWp.seq ?_
    refine AWp.ret ⟨?_,rfl,rfl,Nat.zero_le _,_,rfl⟩
    rfl
 ·rw [List.all_eq_true.2 (fun i hi=>h2 i (by have:=List.mem_range.1 hi;omega)),Bool.true_and] at hF
  have heq : ∀ A:Ar,A=Ar.std->A.zeq n m=F:=fun A hA=>by
   subst hA;rw [<-hF]
   show decide (n=m)=decide (c.length=x.length)
   by_cases e:n=m
   ·rw [decide_eq_true e,decide_eq_true (by omega)]
   ·rw [decide_eq_false e,decide_eq_false (by omega)]
  repeat refine AWp.seq ?_
  refine AWp.reg1 {} hT (fun A hA=>by
    have f0:=ar_nlt hA hz
    repeat (cbv;simp only [f0])
    cbv) (Nat.zero_le _) ?_
  try dsimp only [AExit.then,AExit.block]
  repeat refine AWp.seq ?_
  refine AWp.cond (b:=false) rfl (AWp.exit ?_)
  try dsimp only [AExit.then,AExit.block]
  rw [if_pos rfl]
  repeat refine AWp.seq ?_
  refine AWp.reg1 {} hT (fun A hA=>by
    have f0:=ar_len hA C n hn
    have f1:=ar_len hA X m hm
    have f2:=heq A hA
    repeat (cbv;simp only [f0,f1,f2])
    cbv) (Nat.zero_le _) ?_
  try dsimp only [AExit.then,AExit.block]
  repeat refine AWp.seq ?_
  refine AWp.ret ⟨?_,rfl,rfl,Nat.zero_le _,_,rfl⟩
  rfl
def priceF (c:List (List Int)) (f:Fen):Int:=(c.getD f.1.toNat []).getD f.2.toNat 0
def costF (c:List (List Int)) (l:List Fen):Int:=(l.map (priceF c)).sum
def inCost (c:List (List Int)) (f:Fen):Prop:=0<=f.1/\0<=f.2 /\ ∃ r,c[f.1.toNat]?=some r/\f.2.toNat<r.length
theorem costF_step (c:List (List Int)) (l:List Fen) (z:Nat) (f:Fen) (h:l[z]?=some f):costF c (l.take (z+1))=costF c (l.take z)+priceF c f:=by
 unfold costF
 rw [List.take_add_one,h,List.map_append,List.sum_append];simp
theorem cost_ok (c:List (List Int)) (l:List Fen) (hc : ∀ r∈c,∀ n∈r,0<=n/\n<=9) (hl:l.length<=1000000000) (hin : ∀ f∈l,inCost c f):ACall P 94 [.d (dCost c),.d (.list 2 (l.map dFen))] [] (AI (costF c l)) []:=by
 unfold dCost
 obtain ⟨C,hC⟩ : ∃ X,c.map dRow=X:=⟨_,rfl⟩
 obtain ⟨L,hL⟩ : ∃ X,l.map dFen=X:=⟨_,rfl⟩
 obtain ⟨n,hn⟩ : ∃ n:Int,(L.length:Int)=n:=⟨_,rfl⟩
 have hln:(l.length:Int)=n:=by rw [<-hn,<-hL];simp
 rw [hC,hL]
 refine ACall.enter hT (fn:=Try.f94) Try.func94 rfl (by decide) (by simp [Try.f94]) rfl rfl rfl rfl (Nat.le_refl _) ?_
 repeat refine AWp.seq ?_
 refine AWp.reg1 {} hT (fun A hA=>by cbv) (Nat.zero_le _) ?_
 try dsimp only [AExit.then,AExit.block]
 repeat refine AWp.seq ?_
 refine AWp.reg1 {} hT (fun A hA=>by cbv) (Nat.zero_le _) ?_
 try dsimp only [AExit.then,AExit.block]
 repeat refine AWp.seq ?_
 refine AWp.reg1 {} hT (fun A hA=>by
   have f0:=ar_len hA L n hn
   repeat (cbv;simp only [f0])
   cbv) (Nat.zero_le _) ?_
 try dsimp only [AExit.then,AExit.block]
 refine AWp.block (AWp.loopInv (ι:=Int×Int) (fun p=>0<=p.1/\p.1<=n/\p.2=costF c (l.take p.1.toNat)/\0<=p.2/\p.2<=p.1*9) (fun p=>(n-p.1).toNat) [0,5,8,9,10]
  (fun p=>{ env:=[(0,.d (.list 1 C)),(5,AI p.2),(8,.d (.list 2 L)),(9,AI n),(10,AI p.1)],heap:=[],n:=27 }) (0,0) (by cbv) ⟨Int.le_refl _,by dsimp only;omega,by simp [costF],by simp,by simp⟩ ?_)
 rintro ⟨z,s⟩ ⟨h0,h1,h2,h3,h4⟩
 dsimp only at *
 by_cases hz:z<n
 ·obtain ⟨⟨t,g⟩,hf⟩ : ∃ s,l[z.toNat]?=some s:=⟨_,zp1 (by omega)⟩
  have hLz:L[z.toNat]?=some (.agg [I t,I g]):=by rw [<-hL,List.getElem?_map,hf];rfl
  obtain ⟨q0,q1,r,hr,hg⟩:=hin _ (List.mem_of_getElem? hf)
  dsimp only at q0 q1 hr hg
  obtain ⟨R,hR⟩ : ∃ R,r.map I=R:=⟨_,rfl⟩
  have hCt:C[t.toNat]?=some (.list 1 R):=by rw [<-hC,List.getElem?_map,hr,<-hR];rfl
  obtain ⟨v,hv⟩ : ∃ v,r[g.toNat]?=some v:=⟨_,zp1 hg⟩
  have hRg:R[g.toNat]?=some (I v):=by rw [<-hR,List.getElem?_map,hv];rfl
  have hv9:=hc r (List.mem_of_getElem? hr) v (List.mem_of_getElem? hv)
  have hstep:=costF_step c l z.toNat (t,g) hf
  have hpv:priceF c (t,g)=v:=by
   unfold priceF
   rw [List.getD_eq_getElem?_getD,List.getD_eq_getElem?_getD,hr]
   simp only [Option.getD_some,hv]
  obtain ⟨z1,hz1⟩ : ∃ z1,z+1=z1:=⟨_,rfl⟩
  obtain ⟨s1,hs1⟩ : ∃ z1,s+v=z1:=⟨_,rfl⟩
  rw [hpv,<-h2,hs1,show z.toNat+1=z1.toNat by omega] at hstep
  repeat refine AWp.seq ?_
  refine AWp.reg1 {} hT (fun A hA=>by
    have f0:=ar_lt hA hz
    repeat (cbv;simp only [f0])
    cbv) (Nat.zero_le _) ?_
  try dsimp only [AExit.then,AExit.block]
  repeat refine AWp.seq ?_
  refine AWp.cond (b:=true) rfl (AWp.skip ?_)
  try dsimp only [AExit.then,AExit.block]
  repeat refine AWp.seq ?_
  refine AWp.block ?_
  repeat refine AWp.seq ?_
  refine AWp.reg1 {} hT (fun A hA=>by
    have f0:=ar_get hA hLz
    have f1:=ar_le hA h0
    repeat (cbv;simp only [f0,f1])
    cbv) (Nat.zero_le _) ?_
  try dsimp only [AExit.then,AExit.block]
  repeat refine AWp.seq ?_
  refine AWp.reg1D {} hT rfl (fun A hA=>by
    have f0:=ar_get hA hCt
    have f1:=ar_le hA q0
    have f2:=ar_get hA hRg
    have f3:=ar_le hA q1
    have f4:=ar_add hA s v s1 hs1 (by omega) (by omega)
    repeat (cbv;simp only [f0,f1,f2,f3,f4])
    cbv) (by kernel_rfl) (Nat.zero_le _) ?_
  try dsimp only [AExit.then,AExit.block]
  repeat refine AWp.seq ?_
  refine AWp.reg1 {} hT (fun A hA=>by
    have f0:=ar_add hA z 1 z1 hz1 (by omega) (by omega)
    repeat (cbv;simp only [f0])
    cbv) (Nat.zero_le _) ?_
  try dsimp only [AExit.then,AExit.block]
  exact ⟨(z1,s1),⟨by dsimp only;omega,by dsimp only;omega,hstep.symm,by dsimp only;omega,by dsimp only;omega⟩,by dsimp only;omega,by cbv⟩
 ·rw [List.take_of_length_le (by omega)] at h2
  subst h2
  obtain ⟨S,hS⟩ : ∃ S,costF c l=S:=⟨_,rfl⟩
  rw [hS]
  repeat refine AWp.seq ?_
  refine AWp.reg1 {} hT (fun A hA=>by
    have f0:=ar_nlt hA hz
    repeat (cbv;simp only [f0])
    cbv) (Nat.zero_le _) ?_
  try dsimp only [AExit.then,AExit.block]
  repeat refine AWp.seq ?_
  refine AWp.cond (b:=false) rfl (AWp.exit ?_)
  try dsimp only [AExit.then,AExit.block]
  rw [if_pos rfl]
  repeat refine AWp.seq ?_
  refine AWp.reg1 {} hT (fun A hA=>by cbv) (Nat.zero_le _) ?_
  try dsimp only [AExit.then,AExit.block]
  repeat refine AWp.seq ?_
  refine AWp.ret ⟨?_,rfl,rfl,Nat.zero_le _,_,rfl⟩
  rfl
end Go.Am

namespace Go.Am
open Go Go.Proofs
def okAt (x:List (List Acc)) (l:List Sta) (i:Nat):Bool :=
 there x (l.getD i (0,0,0)).1 (l.getD i (0,0,0)).2.1&&(decide ((l.getD i (0,0,0)).2.1=(l.getD i (0,0,0)).2.2)||isPair x (l.getD i (0,0,0)))&&(l.take i).all fun r => !decide (r.1=(l.getD i (0,0,0)).1)
end Go.Am

namespace Go.Am
open Go Go.Proofs
end Go.Am

namespace Go.Am
open Go Go.Proofs
end Go.Am

namespace Go.Am
open Go Go.Proofs
end Go.Am

namespace Go.Am
open Go Go.Proofs
end Go.Am

namespace Go.Am
open Go Go.Proofs
theorem getD_lt {α:Type} (l:List α) (i:Nat) (d:α) (h:i<l.length):l.getD i d=l[i]:=by
 rw [List.getD_eq_getElem?_getD,zp1 h];rfl
end Go.Am

namespace Go.Am
open Go Go.Proofs
theorem mem_fencesL {x:List (List Acc)} {f:Fen}:f∈fencesL x↔0<=f.1/\f.1<(x.length:Int)/\0<=f.2/\f.2<rl x f.1-1:=by
 unfold fencesL fenT fenRow rl
 simp only [List.mem_flatMap,List.mem_range,List.mem_map]
 constructor
 ·rintro ⟨t,ht,g,hg,rfl⟩
  refine ⟨by simp,by simp;omega,by simp,?_⟩
  simp only [Int.toNat_natCast]
  omega
 ·obtain ⟨t,g⟩:=f
  rintro ⟨h1,h2,h3,h4⟩
  dsimp only at *
  exact ⟨t.toNat,by omega,g.toNat,by omega,by simp;omega⟩
theorem fencesB_mem {x:List (List Acc)} {l:List Fen} (h:fencesB x l=true) : ∀ f∈l,f∈fencesL x:=by
 intro f hf
 unfold fencesB at h
 rw [List.all_eq_true] at h
 obtain ⟨i,hi,rfl⟩:=List.getElem_of_mem hf
 have:=h i (by simpa using hi)
 unfold fenAt at this
 rw [zp4,List.contains_eq_mem,decide_eq_true_eq,getD_lt _ _ _ hi] at this
 exact this.1
theorem priced_row {x:List (List Acc)} {c:List (List Int)} (h:pricedB x c=true):c.length=x.length /\ ∀ t r,c[t]?=some r->r.length=(x.getD t []).length-1 /\ ∀ n∈r,1<=n/\n<=9:=by
 unfold pricedB at h
 rw [zp4,List.all_eq_true,decide_eq_true_eq] at h
 refine ⟨h.2,fun t r hr => ?_⟩
 have ht:=(zp2.1 hr).1
 have:=h.1 t (by simpa using ht)
 unfold prAt in19 at this
 rw [List.getD_eq_getElem?_getD (l:=c),hr] at this
 simp only [Option.getD_some,zp4,decide_eq_true_eq,List.all_eq_true] at this
 exact ⟨this.1.2,this.2⟩
theorem inCost_of {x:List (List Acc)} {c:List (List Int)} {f:Fen} (hp:pricedB x c=true) (hf:f∈fencesL x):inCost c f:=by
 obtain ⟨h1,h2,h3,h4⟩:=mem_fencesL.1 hf
 obtain ⟨g1,g2⟩:=priced_row hp
 refine ⟨h1,h3,c[f.1.toNat]'(by omega),zp1 _,?_⟩
 rw [(g2 _ _ (zp1 (by omega))).1]
 unfold rl at h4
 omega
theorem priced_09 {x:List (List Acc)} {c:List (List Int)} (hp:pricedB x c=true) : ∀ r∈c,∀ n∈r,0<=n/\n<=9:=by
 intro r hr n hn
 obtain ⟨i,hi,rfl⟩:=List.getElem_of_mem hr
 have:=((priced_row hp).2 i _ (zp1 hi)).2 n hn
 omega
end Go.Am

namespace Go.Am
open Go Go.Proofs
end Go.Am

namespace Go.Am
open Go Go.Proofs
def thAt (n:Nat) (l:List Int) (i:Nat):Bool:=(decide (0<=l.getD i 0)&&decide (l.getD i 0<=(n:Int)-1)) && !(l.take i).contains (l.getD i 0)
def threadsB (n:Nat) (l:List Int):Bool:=(List.range l.length).all (thAt n l)&&decide (l.length=n)
end Go.Am
