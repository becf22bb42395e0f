/- Own text: D1xd. -/
import Derived.Test.YtalfdjihejohoaaD1fb
import Derived.Test.YtalfdjihejohoaaD1p3
set_option maxRecDepth 100000
set_option linter.unusedVariables false
set_option linter.unusedSimpArgs false
namespace Go.Am
open Go Go.Proofs
theorem index119 (x:List (Fen)) (hx:x.length<=9223372036854775807) (f:FuncId) (bs:List AV) (H:List Obj) (p:Fen->Bool) (hin:objsInb H.length H=true) (hbs:inbL H.length bs=true) (hbf:bs.all AV.free=true)
  (hp : ∀ l∈x,ACall P f (.d (dFen l)::bs) H (AB (p l)) H) : ∃ r:Int,(decide (0<=r)=x.any p)/\ACall P 136 [.d (.list 2 (x.map dFen)),.func f [] bs] H (AI r) H:=by
 refine ⟨match x.findIdx? p with | some i=>(i:Int) | none => -1,?_,?_⟩
 ·cases h:x.findIdx? p with
  | none =>
    rw [List.findIdx?_eq_none_iff] at h
    have:x.any p=false:=List.any_eq_false.2 (fun y hy=>by rw [h y hy];exact Bool.false_ne_true)
    rw [this];rfl
  | some i =>
    obtain ⟨h1,h2,_⟩:=List.findIdx?_eq_some_iff_getElem.1 h
    have:x.any p=true:=List.any_eq_true.2 ⟨_,zp6 h1,h2⟩
    rw [this];simp
 obtain ⟨X,hX⟩ : ∃ X,x.map dFen=X:=⟨_,rfl⟩
 obtain ⟨n,hn⟩ : ∃ n:Int,(X.length:Int)=n:=⟨_,rfl⟩
 have hxl:(x.length:Int)=n:=by rw [<-hn,<-hX];simp
 rw [hX]
 refine ACall.enter hT (fn:=Try.f136) Try.func136 rfl (by decide) (by simp [Try.f136]) rfl rfl rfl hin (Nat.le_refl _) ?_
 repeat refine AWp.seq ?_
 refine AWp.reg1 {} hT (fun A hA=>by cbv) (Nat.le_refl _) ?_
 try dsimp only [AExit.then,AExit.block]
 repeat refine AWp.seq ?_
 refine AWp.reg1 {} hT (fun A hA=>by
   have f0:=ar_len hA X n hn
   repeat (cbv;simp only [f0])
   cbv) (Nat.le_refl _) ?_
 try dsimp only [AExit.then,AExit.block]
 refine AWp.block (AWp.loopInv (ι:=Int) (fun z=>0<=z/\z<=n /\ ∀ l∈x.take z.toNat,p l=false) (fun z=>(n-z).toNat) [0,1,6,7,8]
  (fun z=>{ env:=[(0,.d (.list 2 X)),(1,.func f [] bs),(6,.d (.list 2 X)),(7,AI n),(8,AI z)],heap:=H,n:=19 }) 0 (by cbv) ⟨Int.le_refl _,by omega,by simp⟩ ?_)
 rintro z ⟨h0,h1,h2⟩
 by_cases hz:z<n
 ·obtain ⟨L,hL⟩ : ∃ L,x[z.toNat]?=some L:=⟨_,zp1 (by omega)⟩
  have hLm:=hp L (List.mem_of_getElem? hL)
  have hXt:X[z.toNat]?=some (dFen L):=by rw [<-hX,List.getElem?_map,hL];rfl
  obtain ⟨b,hb⟩ : ∃ b,p L=b:=⟨_,rfl⟩
  rw [hb] at hLm

  obtain ⟨v,w⟩:=L
  unfold dFen at hXt hLm
  dsimp only at hXt hLm
  obtain ⟨z1,hz1⟩ : ∃ z1,z+1=z1:=⟨_,rfl⟩
  repeat refine AWp.seq ?_
  refine AWp.reg1 {} hT (fun A hA=>by
    have f0:=ar_lt hA hz
    repeat (cbv;simp only [f0])
    cbv) (Nat.le_refl _) ?_
  try dsimp only [AExit.then,AExit.block]
  repeat refine AWp.seq ?_
  refine AWp.cond (b:=true) rfl (AWp.skip ?_)
  try dsimp only [AExit.then,AExit.block]
  repeat refine AWp.seq ?_
  refine AWp.block ?_
  repeat refine AWp.seq ?_
  refine AWp.reg1 {} hT (fun A hA=>by cbv) (Nat.le_refl _) ?_
  try dsimp only [AExit.then,AExit.block]
  repeat refine AWp.seq ?_
  refine AWp.region ?_
  refine AOps.stepCallW hT (an:={}) (fun A hA=>by
    have f0:=ar_get hA hXt
    have f1:=ar_le hA h0
    repeat (cbv;simp only [f0,f1])
    cbv) (Nat.le_refl _) (by first | rfl | exact hin) (by first | rfl | simp [inbL,AV.inb,hbs]) rfl (Nat.le_of_ble_eq_true rfl) rfl (by first | rfl | simp [AV.free,hbf]) (hLm) ?_
  refine AOps.done hT (an:={}) (fun A hA=>by cbv) (Nat.le_refl _) ?_
  try dsimp only [AExit.then,AExit.block]
  cases b with
  | true =>
    repeat refine AWp.seq ?_
    refine AWp.cond (b:=true) rfl ?_
    rw [if_pos rfl]
    repeat refine AWp.seq ?_
    refine AWp.reg1 {} hT (fun A hA=>by cbv) (Nat.le_refl _) ?_
    try dsimp only [AExit.then,AExit.block]
    refine AWp.ret ⟨?_,rfl,hin,Nat.le_refl _,[],by simp⟩
    have:x.findIdx? p=some z.toNat:=by
     rw [List.findIdx?_eq_some_iff_getElem]
     refine ⟨by omega,?_,fun j hj => ?_⟩
     ·rw [zp1 (by omega)] at hL;injection hL with hL;rw [hL];exact hb
     ·have:=h2 x[j] (by rw [List.mem_take_iff_getElem];exact ⟨j,by omega,rfl⟩)
      simp [this]
    rw [this]
    show _=some (AI (z.toNat:Int))
    rw [show (z.toNat:Int)=z by omega]
    rfl
  | false =>
    repeat refine AWp.seq ?_
    refine AWp.cond (b:=false) rfl (AWp.skip ?_)
    try dsimp only [AExit.then,AExit.block]
    repeat refine AWp.seq ?_
    refine AWp.reg1 {} hT (fun A hA=>by
      have f0:=ar_add hA z 1 z1 hz1 (by omega) (by omega)
      repeat (cbv;simp only [f0])
      cbv) (Nat.le_refl _) ?_
    try dsimp only [AExit.then,AExit.block]
    refine ⟨z1,⟨by omega,by omega,?_⟩,by omega,by cbv⟩
    intro l hl
    rw [show z1.toNat=z.toNat+1 by omega,List.take_add_one,hL] at hl
    simp at hl
    rcases hl with hl | rfl
    ·exact h2 l hl
    ·exact hb
 ·repeat refine AWp.seq ?_
  refine AWp.reg1 {} hT (fun A hA=>by
    have f0:=ar_nlt hA hz
    repeat (cbv;simp only [f0])
    cbv) (Nat.le_refl _) ?_
  try dsimp only [AExit.then,AExit.block]
  repeat refine AWp.seq ?_
  refine AWp.cond (b:=false) rfl (AWp.exit ?_)
  try dsimp only [AExit.then,AExit.block]
  rw [if_pos rfl]
  repeat refine AWp.seq ?_
  refine AWp.reg1 {} hT (fun A hA=>by cbv) (Nat.le_refl _) ?_
  try dsimp only [AExit.then,AExit.block]
  refine AWp.ret ⟨?_,rfl,hin,Nat.le_refl _,[],by simp⟩
  have:x.findIdx? p=none:=by
   rw [List.findIdx?_eq_none_iff]
   intro y hy
   exact h2 y (by rw [List.take_of_length_le (by omega)];exact hy)
  rw [this]
  rfl
theorem contains119 (x:List (Fen)) (hx:x.length<=9223372036854775807) (f:FuncId) (bs:List AV) (H:List Obj) (p:Fen->Bool) (hin:objsInb H.length H=true) (hbs:inbL H.length bs=true) (hbf:bs.all AV.free=true)
  (hp : ∀ l∈x,ACall P f (.d (dFen l)::bs) H (AB (p l)) H):ACall P 123 [.d (.list 2 (x.map dFen)),.func f [] bs] H (AB (x.any p)) H:=by
 obtain ⟨r,hr,hc⟩:=index119 x hx f bs H p hin hbs hbf hp
 obtain ⟨b,hb⟩ : ∃ b,x.any p=b:=⟨_,rfl⟩
 rw [hb] at hr ⊢
 obtain ⟨X,hX⟩ : ∃ X,x.map dFen=X:=⟨_,rfl⟩
 rw [hX] at hc ⊢
 refine ACall.enter hT (fn:=Try.f123) Try.func123 rfl (by decide) (by simp [Try.f123]) rfl rfl rfl hin (Nat.le_refl _) ?_
 repeat refine AWp.seq ?_
 refine AWp.reg1 {} hT (fun A hA=>by cbv) (Nat.le_refl _) ?_
 try dsimp only [AExit.then,AExit.block]
 repeat refine AWp.seq ?_
 refine AWp.region ?_
 refine AOps.stepCallW hT (an:={}) (fun A hA=>by cbv) (Nat.le_refl _) (by first | rfl | exact hin) (by first | rfl | simp [inbL,AV.inb,hbs]) rfl (Nat.le_of_ble_eq_true rfl) rfl (by first | rfl | simp [AV.free,hbf]) (hc) ?_
 have hrb : ∀ A:Ar,A=Ar.std->A.zle 0 r=b:=fun A hA=>by subst hA;exact hr
 refine AOps.done hT (an:={}) (fun A hA=>by
   have f0:=hrb A hA
   repeat (cbv;simp only [f0])
   cbv) (Nat.le_refl _) ?_
 try dsimp only [AExit.then,AExit.block]
 refine AWp.ret ⟨rfl,rfl,hin,Nat.le_refl _,[],by simp⟩
theorem indexI (x:List (Int)) (hx:x.length<=9223372036854775807) (f:FuncId) (bs:List AV) (H:List Obj) (p:Int->Bool) (hin:objsInb H.length H=true) (hbs:inbL H.length bs=true) (hbf:bs.all AV.free=true)
  (hp : ∀ l∈x,ACall P f (.d (I l)::bs) H (AB (p l)) H) : ∃ r:Int,(decide (0<=r)=x.any p)/\ACall P 132 [.d (.list 1 (x.map I)),.func f [] bs] H (AI r) H:=by
 refine ⟨match x.findIdx? p with | some i=>(i:Int) | none => -1,?_,?_⟩
 ·cases h:x.findIdx? p with
  | none =>
    rw [List.findIdx?_eq_none_iff] at h
    have:x.any p=false:=List.any_eq_false.2 (fun y hy=>by rw [h y hy];exact Bool.false_ne_true)
    rw [this];rfl
  | some i =>
    obtain ⟨h1,h2,_⟩:=List.findIdx?_eq_some_iff_getElem.1 h
    have:x.any p=true:=List.any_eq_true.2 ⟨_,zp6 h1,h2⟩
    rw [this];simp
 obtain ⟨X,hX⟩ : ∃ X,x.map I=X:=⟨_,rfl⟩
 obtain ⟨n,hn⟩ : ∃ n:Int,(X.length:Int)=n:=⟨_,rfl⟩
 have hxl:(x.length:Int)=n:=by rw [<-hn,<-hX];simp
 rw [hX]
 refine ACall.enter hT (fn:=Try.f132) Try.func132 rfl (by decide) (by simp [Try.f132]) rfl rfl rfl hin (Nat.le_refl _) ?_
 repeat refine AWp.seq ?_
 refine AWp.reg1 {} hT (fun A hA=>by cbv) (Nat.le_refl _) ?_
 try dsimp only [AExit.then,AExit.block]
 repeat refine AWp.seq ?_
 refine AWp.reg1 {} hT (fun A hA=>by
   have f0:=ar_len hA X n hn
   repeat (cbv;simp only [f0])
   cbv) (Nat.le_refl _) ?_
 try dsimp only [AExit.then,AExit.block]
 refine AWp.block (AWp.loopInv (ι:=Int) (fun z=>0<=z/\z<=n /\ ∀ l∈x.take z.toNat,p l=false) (fun z=>(n-z).toNat) [0,1,6,7,8]
  (fun z=>{ env:=[(0,.d (.list 1 X)),(1,.func f [] bs),(6,.d (.list 1 X)),(7,AI n),(8,AI z)],heap:=H,n:=19 }) 0 (by cbv) ⟨Int.le_refl _,by omega,by simp⟩ ?_)
 rintro z ⟨h0,h1,h2⟩
 by_cases hz:z<n
 ·obtain ⟨L,hL⟩ : ∃ L,x[z.toNat]?=some L:=⟨_,zp1 (by omega)⟩
  have hLm:=hp L (List.mem_of_getElem? hL)
  have hXt:X[z.toNat]?=some (I L):=by rw [<-hX,List.getElem?_map,hL];rfl
  obtain ⟨b,hb⟩ : ∃ b,p L=b:=⟨_,rfl⟩
  rw [hb] at hLm

  skip
  obtain ⟨z1,hz1⟩ : ∃ z1,z+1=z1:=⟨_,rfl⟩
  repeat refine AWp.seq ?_
  refine AWp.reg1 {} hT (fun A hA=>by
    have f0:=ar_lt hA hz
    repeat (cbv;simp only [f0])
    cbv) (Nat.le_refl _) ?_
  try dsimp only [AExit.then,AExit.block]
  repeat refine AWp.seq ?_
  refine AWp.cond (b:=true) rfl (AWp.skip ?_)
  try dsimp only [AExit.then,AExit.block]
  repeat refine AWp.seq ?_
  refine AWp.block ?_
  repeat refine AWp.seq ?_
  refine AWp.reg1 {} hT (fun A hA=>by cbv) (Nat.le_refl _) ?_
  try dsimp only [AExit.then,AExit.block]
  repeat refine AWp.seq ?_
  refine AWp.region ?_
  refine AOps.stepCallW hT (an:={}) (fun A hA=>by
    have f0:=ar_get hA hXt
    have f1:=ar_le hA h0
    repeat (cbv;simp only [f0,f1])
    cbv) (Nat.le_refl _) (by first | rfl | exact hin) (by first | rfl | simp [inbL,AV.inb,hbs]) rfl (Nat.le_of_ble_eq_true rfl) rfl (by first | rfl | simp [AV.free,hbf]) (hLm) ?_
  refine AOps.done hT (an:={}) (fun A hA=>by cbv) (Nat.le_refl _) ?_
  try dsimp only [AExit.then,AExit.block]
  cases b with
  | true =>
    repeat refine AWp.seq ?_
    refine AWp.cond (b:=true) rfl ?_
    rw [if_pos rfl]
    repeat refine AWp.seq ?_
    refine AWp.reg1 {} hT (fun A hA=>by cbv) (Nat.le_refl _) ?_
    try dsimp only [AExit.then,AExit.block]
    refine AWp.ret ⟨?_,rfl,hin,Nat.le_refl _,[],by simp⟩
    have:x.findIdx? p=some z.toNat:=by
     rw [List.findIdx?_eq_some_iff_getElem]
     refine ⟨by omega,?_,fun j hj => ?_⟩
     ·rw [zp1 (by omega)] at hL;injection hL with hL;rw [hL];exact hb
     ·have:=h2 x[j] (by rw [List.mem_take_iff_getElem];exact ⟨j,by omega,rfl⟩)
      simp [this]
    rw [this]
    show _=some (AI (z.toNat:Int))
    rw [show (z.toNat:Int)=z by omega]
    rfl
  | false =>
    repeat refine AWp.seq ?_
    refine AWp.cond (b:=false) rfl (AWp.skip ?_)
    try dsimp only [AExit.then,AExit.block]
    repeat refine AWp.seq ?_
    refine AWp.reg1 {} hT (fun A hA=>by
      have f0:=ar_add hA z 1 z1 hz1 (by omega) (by omega)
      repeat (cbv;simp only [f0])
      cbv) (Nat.le_refl _) ?_
    try dsimp only [AExit.then,AExit.block]
    refine ⟨z1,⟨by omega,by omega,?_⟩,by omega,by cbv⟩
    intro l hl
    rw [show z1.toNat=z.toNat+1 by omega,List.take_add_one,hL] at hl
    simp at hl
    rcases hl with hl | rfl
    ·exact h2 l hl
    ·exact hb
 ·repeat refine AWp.seq ?_
  refine AWp.reg1 {} hT (fun A hA=>by
    have f0:=ar_nlt hA hz
    repeat (cbv;simp only [f0])
    cbv) (Nat.le_refl _) ?_
  try dsimp only [AExit.then,AExit.block]
  repeat refine AWp.seq ?_
  refine AWp.cond (b:=false) rfl (AWp.exit ?_)
  try dsimp only [AExit.then,AExit.block]
  rw [if_pos rfl]
  repeat refine AWp.seq ?_
  refine AWp.reg1 {} hT (fun A hA=>by cbv) (Nat.le_refl _) ?_
  try dsimp only [AExit.then,AExit.block]
  refine AWp.ret ⟨?_,rfl,hin,Nat.le_refl _,[],by simp⟩
  have:x.findIdx? p=none:=by
   rw [List.findIdx?_eq_none_iff]
   intro y hy
   exact h2 y (by rw [List.take_of_length_le (by omega)];exact hy)
  rw [this]
  rfl
theorem containsI (x:List (Int)) (hx:x.length<=9223372036854775807) (f:FuncId) (bs:List AV) (H:List Obj) (p:Int->Bool) (hin:objsInb H.length H=true) (hbs:inbL H.length bs=true) (hbf:bs.all AV.free=true)
  (hp : ∀ l∈x,ACall P f (.d (I l)::bs) H (AB (p l)) H):ACall P 102 [.d (.list 1 (x.map I)),.func f [] bs] H (AB (x.any p)) H:=by
 obtain ⟨r,hr,hc⟩:=indexI x hx f bs H p hin hbs hbf hp
 obtain ⟨b,hb⟩ : ∃ b,x.any p=b:=⟨_,rfl⟩
 rw [hb] at hr ⊢
 obtain ⟨X,hX⟩ : ∃ X,x.map I=X:=⟨_,rfl⟩
 rw [hX] at hc ⊢
 refine ACall.enter hT (fn:=Try.f102) Try.func102 rfl (by decide) (by simp [Try.f102]) rfl rfl rfl hin (Nat.le_refl _) ?_
 repeat refine AWp.seq ?_
 refine AWp.reg1 {} hT (fun A hA=>by cbv) (Nat.le_refl _) ?_
 try dsimp only [AExit.then,AExit.block]
 repeat refine AWp.seq ?_
 refine AWp.region ?_
 refine AOps.stepCallW hT (an:={}) (fun A hA=>by cbv) (Nat.le_refl _) (by first | rfl | exact hin) (by first | rfl | simp [inbL,AV.inb,hbs]) rfl (Nat.le_of_ble_eq_true rfl) rfl (by first | rfl | simp [AV.free,hbf]) (hc) ?_
 have hrb : ∀ A:Ar,A=Ar.std->A.zle 0 r=b:=fun A hA=>by subst hA;exact hr
 refine AOps.done hT (an:={}) (fun A hA=>by
   have f0:=hrb A hA
   repeat (cbv;simp only [f0])
   cbv) (Nat.le_refl _) ?_
 try dsimp only [AExit.then,AExit.block]
 refine AWp.ret ⟨rfl,rfl,hin,Nat.le_refl _,[],by simp⟩
end Go.Am

namespace Go.Am
open Go Go.Proofs
end Go.Am

namespace Go.Am
open Go Go.Proofs
def holdsF (f:Fen) (s:Sta):Bool:=decide (f.1=s.1)&&decide (s.2.1<=f.2)&&decide (f.2<s.2.2)
theorem holds_ok (f:Fen) (s:Sta):ACall P 105 [.d (dFen f),.d (dSta s)] [] (AB (holdsF f s)) []:=by
 obtain ⟨u,g⟩:=f
 obtain ⟨t,a,b⟩:=s
 unfold dFen dSta holdsF
 dsimp only
 obtain ⟨e1,h1⟩ : ∃ e,decide (u=t)=e:=⟨_,rfl⟩
 obtain ⟨e2,h2⟩ : ∃ e,decide (a<=g)=e:=⟨_,rfl⟩
 obtain ⟨e3,h3⟩ : ∃ e,decide (g<b)=e:=⟨_,rfl⟩
 have k1 : ∀ A:Ar,A=Ar.std->A.zeq u t=e1:=fun A hA=>by subst hA;exact h1
 have k2 : ∀ A:Ar,A=Ar.std->A.zle a g=e2:=fun A hA=>by subst hA;exact h2
 have k3 : ∀ A:Ar,A=Ar.std->A.zlt g b=e3:=fun A hA=>by subst hA;exact h3
 rw [h1,h2,h3]
 cases e1 with
 | false =>
   refine ACall.enter hT (fn:=Try.f105) Try.func105 rfl (by decide) (by simp [Try.f105]) rfl rfl rfl rfl (Nat.le_refl _) ?_
   repeat refine AWp.seq ?_
   refine AWp.reg1 {} hT (fun A hA=>by cbv) (Nat.zero_le _) ?_
   try dsimp only [AExit.then,AExit.block]
   repeat refine AWp.seq ?_
   refine AWp.reg1 {} hT (fun A hA=>by
     have f0:=k1 A hA
     repeat (cbv;simp only [f0])
     cbv) (Nat.zero_le _) ?_
   try dsimp only [AExit.then,AExit.block]
   repeat refine AWp.seq ?_
   refine AWp.ret ⟨?_,rfl,rfl,Nat.zero_le _,_,rfl⟩
   rfl
 | true =>
   cases e2 with
   | false =>
     refine ACall.enter hT (fn:=Try.f105) Try.func105 rfl (by decide) (by simp [Try.f105]) rfl rfl rfl rfl (Nat.le_refl _) ?_
     repeat refine AWp.seq ?_
     refine AWp.reg1 {} hT (fun A hA=>by cbv) (Nat.zero_le _) ?_
     try dsimp only [AExit.then,AExit.block]
     repeat refine AWp.seq ?_
     refine AWp.reg1 {} hT (fun A hA=>by
       have f0:=k1 A hA
       have f1:=k2 A hA
       repeat (cbv;simp only [f0,f1])
       cbv) (Nat.zero_le _) ?_
     try dsimp only [AExit.then,AExit.block]
     repeat refine AWp.seq ?_
     refine AWp.ret ⟨?_,rfl,rfl,Nat.zero_le _,_,rfl⟩
     rfl
   | true =>
     refine ACall.enter hT (fn:=Try.f105) Try.func105 rfl (by decide) (by simp [Try.f105]) rfl rfl rfl rfl (Nat.le_refl _) ?_
     repeat refine AWp.seq ?_
     refine AWp.reg1 {} hT (fun A hA=>by cbv) (Nat.zero_le _) ?_
     try dsimp only [AExit.then,AExit.block]
     repeat refine AWp.seq ?_
     refine AWp.reg1 {} hT (fun A hA=>by
       have f0:=k1 A hA
       have f1:=k2 A hA
       have f2:=k3 A hA
       repeat (cbv;simp only [f0,f1,f2])
       cbv) (Nat.zero_le _) ?_
     try dsimp only [AExit.then,AExit.block]
     repeat refine AWp.seq ?_
     refine AWp.ret ⟨?_,rfl,rfl,Nat.zero_le _,_,rfl⟩
     rfl
theorem holdsR_ok (f:Fen) (s:Sta):ACall P 106 [.d (dFen f),.d (dSta s)] [] (AB (holdsF f s)) []:=by
 obtain ⟨u,g⟩:=f
 obtain ⟨t,a,b⟩:=s
 unfold dFen dSta holdsF
 dsimp only
 obtain ⟨e1,h1⟩ : ∃ e,decide (u=t)=e:=⟨_,rfl⟩
 obtain ⟨e2,h2⟩ : ∃ e,decide (a<=g)=e:=⟨_,rfl⟩
 obtain ⟨e3,h3⟩ : ∃ e,decide (g<b)=e:=⟨_,rfl⟩
 have k1 : ∀ A:Ar,A=Ar.std->A.zeq u t=e1:=fun A hA=>by subst hA;exact h1
 have k2 : ∀ A:Ar,A=Ar.std->A.zle a g=e2:=fun A hA=>by subst hA;exact h2
 have k3 : ∀ A:Ar,A=Ar.std->A.zlt g b=e3:=fun A hA=>by subst hA;exact h3
 rw [h1,h2,h3]
 cases e1 with
 | false =>
   refine ACall.enter hT (fn:=Try.f106) Try.func106 rfl (by decide) (by simp [Try.f106]) rfl rfl rfl rfl (Nat.le_refl _) ?_
   repeat refine AWp.seq ?_
   refine AWp.reg1 {} hT (fun A hA=>by cbv) (Nat.zero_le _) ?_
   try dsimp only [AExit.then,AExit.block]
   repeat refine AWp.seq ?_
   refine AWp.reg1 {} hT (fun A hA=>by
     have f0:=k1 A hA
     repeat (cbv;simp only [f0])
     cbv) (Nat.zero_le _) ?_
   try dsimp only [AExit.then,AExit.block]
   repeat refine AWp.seq ?_
   refine AWp.ret ⟨?_,rfl,rfl,Nat.zero_le _,_,rfl⟩
   rfl
 | true =>
   cases e2 with
   | false =>
     refine ACall.enter hT (fn:=Try.f106) Try.func106 rfl (by decide) (by simp [Try.f106]) rfl rfl rfl rfl (Nat.le_refl _) ?_
     repeat refine AWp.seq ?_
     refine AWp.reg1 {} hT (fun A hA=>by cbv) (Nat.zero_le _) ?_
     try dsimp only [AExit.then,AExit.block]
     repeat refine AWp.seq ?_
     refine AWp.reg1 {} hT (fun A hA=>by
       have f0:=k1 A hA
       have f1:=k2 A hA
       repeat (cbv;simp only [f0,f1])
       cbv) (Nat.zero_le _) ?_
     try dsimp only [AExit.then,AExit.block]
     repeat refine AWp.seq ?_
     refine AWp.ret ⟨?_,rfl,rfl,Nat.zero_le _,_,rfl⟩
     rfl
   | true =>
     refine ACall.enter hT (fn:=Try.f106) Try.func106 rfl (by decide) (by simp [Try.f106]) rfl rfl rfl rfl (Nat.le_refl _) ?_
     repeat refine AWp.seq ?_
     refine AWp.reg1 {} hT (fun A hA=>by cbv) (Nat.zero_le _) ?_
     try dsimp only [AExit.then,AExit.block]
     repeat refine AWp.seq ?_
     refine AWp.reg1 {} hT (fun A hA=>by
       have f0:=k1 A hA
       have f1:=k2 A hA
       have f2:=k3 A hA
       repeat (cbv;simp only [f0,f1,f2])
       cbv) (Nat.zero_le _) ?_
     try dsimp only [AExit.then,AExit.block]
     repeat refine AWp.seq ?_
     refine AWp.ret ⟨?_,rfl,rfl,Nat.zero_le _,_,rfl⟩
     rfl
theorem held1_ok (f:Fen) (s:Sta):ACall P 124 [.d (dFen f),.ptr 0 0] [.cells [AI s.1,AI s.2.1,AI s.2.2]] (AB (holdsF f s)) [.cells [AI s.1,AI s.2.1,AI s.2.2]]:=by
 have ch:=holds_ok f s
 obtain ⟨r,hr⟩ : ∃ r,holdsF f s=r:=⟨_,rfl⟩
 rw [hr] at ch ⊢
 obtain ⟨u,g⟩:=f
 obtain ⟨t,a,b⟩:=s
 unfold dFen dSta at *
 dsimp only at *
 refine ACall.enter hT (fn:=Try.f124) Try.func124 rfl (by decide) (by simp [Try.f124]) rfl rfl rfl rfl (Nat.le_refl _) ?_
 repeat refine AWp.seq ?_
 refine AWp.reg1 {} hT (fun A hA=>by cbv) (Nat.le_of_ble_eq_true rfl) ?_
 try dsimp only [AExit.then,AExit.block]
 repeat refine AWp.seq ?_
 refine AWp.region ?_
 refine AOps.stepCall hT (an:={}) (fun A hA=>by cbv) (Nat.le_of_ble_eq_true rfl) rfl (.inr rfl) rfl rfl rfl (Nat.le_of_ble_eq_true rfl) rfl rfl (ch) ?_
 refine AOps.done hT (an:={}) (fun A hA=>by cbv) (Nat.le_of_ble_eq_true rfl) ?_
 try dsimp only [AExit.then,AExit.block]
 refine AWp.ret ⟨rfl,rfl,rfl,Nat.le_refl _,[],by simp⟩
def heldF (l:List Fen) (s:Sta):Bool:=l.any fun f=>holdsF f s
theorem held_ok (l:List Fen) (s:Sta) (hl:l.length<=1000000000):ACall P 88 [.d (.list 2 (l.map dFen)),.d (dSta s)] [] (AB (heldF l s)) []:=by
 have cc:=contains119 l (by omega) 124 [.ptr 0 0] [.cells [AI s.1,AI s.2.1,AI s.2.2]] (fun f=>holdsF f s) rfl rfl rfl (fun f _=>held1_ok f s)
 unfold heldF
 obtain ⟨r,hr⟩ : ∃ r,l.any (fun f=>holdsF f s)=r:=⟨_,rfl⟩
 obtain ⟨L,hL⟩ : ∃ X,l.map dFen=X:=⟨_,rfl⟩
 rw [hr] at cc ⊢
 rw [hL] at cc ⊢
 obtain ⟨t,a,b⟩:=s
 unfold dSta
 dsimp only at *
 refine ACall.enter hT (fn:=Try.f88) Try.func88 rfl (by decide) (by simp [Try.f88]) rfl rfl rfl rfl (Nat.le_refl _) ?_
 repeat refine AWp.seq ?_
 refine AWp.reg1 {esc:=[3]} hT (fun A hA=>by cbv) (Nat.zero_le _) ?_
 try dsimp only [AExit.then,AExit.block]
 repeat refine AWp.seq ?_
 refine AWp.region ?_
 refine AOps.stepCallW hT (an:={}) (fun A hA=>by cbv) (Nat.zero_le _) (by first | rfl | exact hin) (by first | rfl | simp [inbL,AV.inb,hbs]) rfl (Nat.le_of_ble_eq_true rfl) rfl (by first | rfl | simp [AV.free,hbf]) (cc) ?_
 refine AOps.done hT (an:={}) (fun A hA=>by cbv) (Nat.zero_le _) ?_
 try dsimp only [AExit.then,AExit.block]
 refine AWp.ret ⟨rfl,rfl,rfl,Nat.zero_le _,_,rfl⟩
theorem enough1_ok (l:List Fen) (s:Sta) (hl:l.length<=1000000000):ACall P 126 [.d (dSta s),.ptr 0 0] [.cells [.d (.list 2 (l.map dFen))]] (AB (!heldF l s)) [.cells [.d (.list 2 (l.map dFen))]]:=by
 have ch:=held_ok l s hl
 obtain ⟨r,hr⟩ : ∃ r,heldF l s=r:=⟨_,rfl⟩
 obtain ⟨L,hL⟩ : ∃ X,l.map dFen=X:=⟨_,rfl⟩
 rw [hr] at ch ⊢
 rw [hL] at ch ⊢
 obtain ⟨t,a,b⟩:=s
 unfold dSta at *
 dsimp only at *
 refine ACall.enter hT (fn:=Try.f126) Try.func126 rfl (by decide) (by simp [Try.f126]) rfl rfl rfl rfl (Nat.le_refl _) ?_
 repeat refine AWp.seq ?_
 refine AWp.reg1 {} hT (fun A hA=>by cbv) (Nat.le_of_ble_eq_true rfl) ?_
 try dsimp only [AExit.then,AExit.block]
 repeat refine AWp.seq ?_
 refine AWp.region ?_
 refine AOps.stepCall hT (an:={}) (fun A hA=>by cbv) (Nat.le_of_ble_eq_true rfl) rfl (.inr rfl) rfl rfl rfl (Nat.le_of_ble_eq_true rfl) rfl rfl (ch) ?_
 refine AOps.done hT (an:={}) (fun A hA=>by cbv) (Nat.le_of_ble_eq_true rfl) ?_
 try dsimp only [AExit.then,AExit.block]
 refine AWp.ret ⟨rfl,rfl,rfl,Nat.le_refl _,[],by simp⟩
def enoughF (l:List Fen) (p:List Sta):Bool:=p.all (heldF l)
theorem enough_ok (l:List Fen) (p:List Sta) (hl:l.length<=1000000000) (hp:p.length<=1000000000):ACall P 91 [.d (.list 2 (l.map dFen)),.d (.list 3 (p.map dSta))] [] (AB (enoughF l p)) []:=by
 have cc:=contains98 p (by omega) 126 [.ptr 0 0] [.cells [.d (.list 2 (l.map dFen))]] (fun s => !heldF l s) rfl rfl rfl (fun s _=>enough1_ok l s hl)
 have he:(!p.any fun s => !heldF l s)=enoughF l p:=by unfold enoughF;rw [List.not_any_eq_all_not];simp
 obtain ⟨r,hr⟩ : ∃ r,(p.any fun s => !heldF l s)=r:=⟨_,rfl⟩
 rw [hr] at cc he
 rw [<-he]
 obtain ⟨L,hL⟩ : ∃ X,l.map dFen=X:=⟨_,rfl⟩
 obtain ⟨Q,hQ⟩ : ∃ X,p.map dSta=X:=⟨_,rfl⟩
 rw [hL,hQ] at cc
 rw [hL,hQ]
 refine ACall.enter hT (fn:=Try.f91) Try.func91 rfl (by decide) (by simp [Try.f91]) rfl rfl rfl rfl (Nat.le_refl _) ?_
 repeat refine AWp.seq ?_
 refine AWp.reg1 {esc:=[2]} hT (fun A hA=>by cbv) (Nat.zero_le _) ?_
 try dsimp only [AExit.then,AExit.block]
 repeat refine AWp.seq ?_
 refine AWp.region ?_
 refine AOps.stepCallW hT (an:={}) (fun A hA=>by cbv) (Nat.zero_le _) (by first | rfl | exact hin) (by first | rfl | simp [inbL,AV.inb,hbs]) rfl (Nat.le_of_ble_eq_true rfl) rfl (by first | rfl | simp [AV.free,hbf]) (cc) ?_
 refine AOps.done hT (an:={}) (fun A hA=>by cbv) (Nat.zero_le _) ?_
 try dsimp only [AExit.then,AExit.block]
 refine AWp.ret ⟨rfl,rfl,rfl,Nat.zero_le _,_,rfl⟩
end Go.Am

namespace Go.Am
open Go Go.Proofs
end Go.Am

namespace Go.Am
open Go Go.Proofs
def dRow (l:List Int):D := .list 1 (l.map I)
def dCost (c:List (List Int)):D := .list 1 (c.map dRow)
def in19 (n:Int):Bool:=decide (1<=n)&&decide (n<=9)
def prAt (x:List (List Acc)) (c:List (List Int)) (t:Nat):Bool :=
 decide (t<x.length)&&decide ((c.getD t []).length=(x.getD t []).length-1)&&(c.getD t []).all in19
def pricedB (x:List (List Acc)) (c:List (List Int)):Bool:=(List.range c.length).all (prAt x c)&&decide (c.length=x.length)
theorem priced1_ok (n:Int):ACall P 127 [AI n] [] (AB (!in19 n)) []:=by
 have cb:=between_ok 1 n 9
 unfold in19
 obtain ⟨r,hr⟩ : ∃ r,(decide (1<=n)&&decide (n<=9))=r:=⟨_,rfl⟩
 rw [hr] at cb ⊢
 refine ACall.enter hT (fn:=Try.f127) Try.func127 rfl (by decide) (by simp [Try.f127]) rfl rfl rfl rfl (Nat.le_refl _) ?_
 repeat refine AWp.seq ?_
 refine AWp.reg1 {} hT (fun A hA=>by cbv) (Nat.zero_le _) ?_
 try dsimp only [AExit.then,AExit.block]
 repeat refine AWp.seq ?_
 refine AWp.region ?_
 refine AOps.stepCall hT (an:={}) (fun A hA=>by cbv) (Nat.zero_le _) rfl (.inr rfl) rfl rfl rfl (Nat.le_of_ble_eq_true rfl) rfl rfl (cb) ?_
 refine AOps.done hT (an:={}) (fun A hA=>by cbv) (Nat.zero_le _) ?_
 try dsimp only [AExit.then,AExit.block]
 repeat refine AWp.seq ?_
 refine AWp.ret ⟨?_,rfl,rfl,Nat.zero_le _,_,rfl⟩
 rfl
theorem priced_ok (x:List (List Acc)) (c:List (List Int)) (hx:Small x) (hc:c.length<=1000000000) (hcr : ∀ r∈c,r.length<=9223372036854775807):ACall P 93 [.d (dX x),.d (dCost c)] [] (AB (pricedB x c)) []:=by
 have cin:=fun (r:List Int) (h:r.length<=9223372036854775807)=>containsI r h 127 [] [] (fun n => !in19 n) rfl rfl rfl (fun n _=>priced1_ok n)
 have hpr : ∀ t,prAt x c t=(decide (t<x.length)&&decide ((c.getD t []).length=(x.getD t []).length-1)&&(c.getD t []).all in19):=fun t=>rfl
 obtain ⟨F,hF⟩ : ∃ F,pricedB x c=F:=⟨_,rfl⟩
 rw [hF]
 unfold pricedB at hF
 obtain ⟨pr,hpr'⟩ : ∃ f,prAt x c=f:=⟨_,rfl⟩
 rw [hpr'] at hpr hF
 unfold dX dCost
 obtain ⟨X,hX⟩ : ∃ X,x.map dAccs=X:=⟨_,rfl⟩
 obtain ⟨C,hC⟩ : ∃ X,c.map dRow=X:=⟨_,rfl⟩
 obtain ⟨m,hm⟩ : ∃ n:Int,(X.length:Int)=n:=⟨_,rfl⟩
 obtain ⟨n,hn⟩ : ∃ n:Int,(C.length:Int)=n:=⟨_,rfl⟩
 have hxm:(x.length:Int)=m:=by rw [<-hm,<-hX];simp
 have hcn:(c.length:Int)=n:=by rw [<-hn,<-hC];simp
 have hno : ∀ i,i<c.length->pr i=false->F=false:=fun i hi h=>by
  rw [<-hF,List.all_eq_false.2 ⟨i,by simpa using hi,by rw [h];decide⟩];rfl
 rw [hX,hC]
 refine ACall.enter hT (fn:=Try.f93) Try.func93 rfl (by decide) (by simp [Try.f93]) rfl rfl rfl rfl (Nat.le_refl _) ?_
 repeat refine AWp.seq ?_
 refine AWp.reg1 {} hT (fun A hA=>by cbv) (Nat.zero_le _) ?_
 try dsimp only [AExit.then,AExit.block]
 repeat refine AWp.seq ?_
 refine AWp.reg1 {} hT (fun A hA=>by
   have f0:=ar_len hA C n hn
   repeat (cbv;simp only [f0])
   cbv) (Nat.zero_le _) ?_
 try dsimp only [AExit.then,AExit.block]
 refine AWp.block (AWp.loopInv (ι:=Int) (fun z=>0<=z/\z<=n /\ ∀ i,i<z.toNat->pr i=true) (fun z=>(n-z).toNat) [0,1,7,8,9]
  (fun z=>{ env:=[(0,.d (.list 1 X)),(1,.d (.list 1 C)),(7,.d (.list 1 C)),(8,AI n),(9,AI z)],heap:=[],n:=40 }) 0 (by cbv) ⟨Int.le_refl _,by omega,by simp⟩ ?_)
 rintro z ⟨h0,h1,h2⟩
 by_cases hz:z<n
 ·obtain ⟨r,hr⟩ : ∃ s,c[z.toNat]?=some s:=⟨_,zp1 (by omega)⟩
  obtain ⟨R,hR⟩ : ∃ R,r.map I=R:=⟨_,rfl⟩
  obtain ⟨k,hk⟩ : ∃ n:Int,(R.length:Int)=n:=⟨_,rfl⟩
  have hrk:(r.length:Int)=k:=by rw [<-hk,<-hR];simp
  have hCz:C[z.toNat]?=some (.list 1 R):=by rw [<-hC,List.getElem?_map,hr,<-hR];rfl
  have hcc:=cin r (hcr r (List.mem_of_getElem? hr))
  obtain ⟨z1,hz1⟩ : ∃ z1,z+1=z1:=⟨_,rfl⟩
  have hprz:=hpr z.toNat
  rw [List.getD_eq_getElem?_getD (i:=z.toNat) (l:=c),hr] at hprz
  simp only [Option.getD_some] at hprz
  have hno':=hno z.toNat (by omega)
  have hal:r.all in19 = !r.any fun n => !in19 n:=by rw [List.not_any_eq_all_not];simp
  obtain ⟨bad,hbad⟩ : ∃ b,(r.any fun n => !in19 n)=b:=⟨_,rfl⟩
  rw [hbad] at hcc hal
  rw [hR] at hcc
  rw [hal] at hprz
  repeat refine AWp.seq ?_
  refine AWp.reg1 {} hT (fun A hA=>by
    have f0:=ar_lt hA hz
    repeat (cbv;simp only [f0])
    cbv) (Nat.zero_le _) ?_
  try dsimp only [AExit.then,AExit.block]
  repeat refine AWp.seq ?_
  refine AWp.cond (b:=true) rfl (AWp.skip ?_)
  try dsimp only [AExit.then,AExit.block]
  repeat refine AWp.seq ?_
  refine AWp.block ?_
  repeat refine AWp.seq ?_
  refine AWp.reg1 {} hT (fun A hA=>by
    have f0:=ar_get hA hCz
    have f1:=ar_le hA h0
    repeat (cbv;simp only [f0,f1])
    cbv) (Nat.zero_le _) ?_
  try dsimp only [AExit.then,AExit.block]
  by_cases hzm:m<=z
  ·rw [show decide (z.toNat<x.length)=false by simp;omega] at hprz
   repeat refine AWp.seq ?_
   refine AWp.reg1 {} hT (fun A hA=>by
     have f0:=ar_len hA X m hm
     have f1:=ar_le hA hzm
     repeat (cbv;simp only [f0,f1])
     cbv) (Nat.zero_le _) ?_
   try dsimp only [AExit.then,AExit.block]
   repeat refine AWp.seq ?_
   refine AWp.cond (b:=true) rfl ?_
   rw [if_pos rfl]
   repeat refine AWp.seq ?_
   refine AWp.reg1 {} hT (fun A hA=>by cbv) (Nat.zero_le _) ?_
   try dsimp only [AExit.then,AExit.block]
   obtain rfl:=hno' (by rw [hprz];simp)
   repeat refine AWp.seq ?_
   refine AWp.ret ⟨?_,rfl,rfl,Nat.zero_le _,_,rfl⟩
   rfl
  ·rw [show decide (z.toNat<x.length)=true by simp;omega] at hprz
   obtain ⟨L,hL⟩ : ∃ L,x[z.toNat]?=some L:=⟨_,zp1 (by omega)⟩
   obtain ⟨L',hL'⟩ : ∃ L',L.map dAcc=L':=⟨_,rfl⟩
   obtain ⟨j,hj⟩ : ∃ n:Int,(L'.length:Int)=n:=⟨_,rfl⟩
   have hjL:(L.length:Int)=j:=by rw [<-hj,<-hL'];simp
   have hs2:=hx.2 L (List.mem_of_getElem? hL)
   have hXt:X[z.toNat]?=some (.list 2 L'):=by rw [<-hX,List.getElem?_map,hL,<-hL'];rfl
   obtain ⟨j1,hj1⟩ : ∃ z1,j-1=z1:=⟨_,rfl⟩
   obtain ⟨q,hq⟩ : ∃ m,max 0 j1=m:=⟨_,rfl⟩
   have hmax : ∀ A:Ar,A=Ar.std->A.zmax 0 j1=q:=fun A hA=>by subst hA;rw [<-hq];simp only [Ar.std];split <;> omega
   rw [List.getD_eq_getElem?_getD,hL] at hprz
   simp only [Option.getD_some] at hprz
   by_cases hkq:k=q
   ·rw [show decide (r.length=L.length-1)=true by simp;omega] at hprz
    repeat refine AWp.seq ?_
    refine AWp.region ?_
    refine AOps.stepCall hT (an:={}) (fun A hA=>by
      have f0:=ar_len hA X m hm
      have f1:=ar_nle hA hzm
      have f2:=ar_len hA R k hk
      have f3:=ar_get hA hXt
      have f4:=ar_le hA h0
      have f5:=ar_len hA L' j hj
      have f6:=ar_sub hA j 1 j1 hj1 (by omega) (by omega)
      have f7:=hmax A hA
      have f8:=ar_eq hA hkq
      repeat (cbv;simp only [f0,f1,f2,f3,f4,f5,f6,f7,f8])
      cbv) (Nat.zero_le _) rfl (.inr rfl) rfl rfl rfl (Nat.le_of_ble_eq_true rfl) rfl rfl (hcc) ?_
    refine AOps.done hT (an:={}) (fun A hA=>by cbv) (Nat.zero_le _) ?_
    try dsimp only [AExit.then,AExit.block]
    cases bad with
    | true =>
      repeat refine AWp.seq ?_
      refine AWp.cond (b:=true) rfl ?_
      rw [if_pos rfl]
      repeat refine AWp.seq ?_
      refine AWp.reg1 {} hT (fun A hA=>by cbv) (Nat.zero_le _) ?_
      try dsimp only [AExit.then,AExit.block]
      obtain rfl:=hno' (by rw [hprz];rfl)
      repeat refine AWp.seq ?_
      refine AWp.ret ⟨?_,rfl,rfl,Nat.zero_le _,_,rfl⟩
      rfl
    | false =>
      repeat refine AWp.seq ?_
      refine AWp.cond (b:=false) rfl (AWp.skip ?_)
      try dsimp only [AExit.then,AExit.block]
      repeat refine AWp.seq ?_
      refine AWp.reg1 {} hT (fun A hA=>by
        have f0:=ar_add hA z 1 z1 hz1 (by omega) (by omega)
        repeat (cbv;simp only [f0])
        cbv) (Nat.zero_le _) ?_
      try dsimp only [AExit.then,AExit.block]
      refine ⟨z1,⟨by omega,by omega,fun i hi => ?_⟩,by omega,by cbv⟩
      rcases Nat.lt_or_ge i z.toNat with h | h
      ·exact h2 i h
      ·rw [show i=z.toNat by omega,hprz];rfl
   ·rw [show decide (r.length=L.length-1)=false by simp;omega] at hprz
    repeat refine AWp.seq ?_
    refine AWp.reg1 {} hT (fun A hA=>by
      have f0:=ar_len hA X m hm
      have f1:=ar_nle hA hzm
      have f2:=ar_len hA R k hk
      have f3:=ar_get hA hXt
      have f4:=ar_le hA h0
      have f5:=ar_len hA L' j hj
      have f6:=ar_sub hA j 1 j1 hj1 (by omega) (by omega)
      have f7:=hmax A hA
      have f8:=ar_ne hA hkq
      repeat (cbv;simp only [f0,f1,f2,f3,f4,f5,f6,f7,f8])
      cbv) (Nat.zero_le _) ?_
    try dsimp only [AExit.then,AExit.block]
    repeat refine AWp.seq ?_
    refine AWp.cond (b:=true) rfl ?_
    rw [if_pos rfl]
    repeat refine AWp.seq ?_
    refine AWp.reg1 {} hT (fun A hA=>by cbv) (Nat.zero_le _) ?_
    try dsimp only [AExit.then,AExit.block]
    obtain rfl:=hno' (by rw [hprz];rfl)
    repeat refine AWp.seq ?_
    refine AWp.ret ⟨?_,rfl,rfl,Nat.zero_le _,_,rfl⟩
    rfl
 ·rw [List.all_eq_true.2 (fun i hi=>h2 i (by have:=List.mem_range.1 hi;omega)),Bool.true_and] at hF
  have heq : ∀ A:Ar,A=Ar.std->A.zeq n m=F:=fun A hA=>by
   subst hA;rw [<-hF]
   show decide (n=m)=decide (c.length=x.length)
   by_cases e:n=m
   ·rw [decide_eq_true e,decide_eq_true (by omega)]
   ·rw [decide_eq_false e,decide_eq_false (by omega)]
  repeat refine AWp.seq ?_
  refine AWp.reg1 {} hT (fun A hA=>by
    have f0:=ar_nlt hA hz
    repeat (cbv;simp only [f0])
    cbv) (Nat.zero_le _) ?_
  try dsimp only [AExit.then,AExit.block]
  repeat refine AWp.seq ?_
  refine AWp.cond (b:=false) rfl (AWp.exit ?_)
  try dsimp only [AExit.then,AExit.block]
  rw [if_pos rfl]
  repeat refine AWp.seq ?_
  refine AWp.reg1 {} hT (fun A hA=>by
    have f0:=ar_len hA C n hn
    have f1:=ar_len hA X m hm
    have f2:=heq A hA
    repeat (cbv;simp only [f0,f1,f2])
    cbv) (Nat.zero_le _) ?_
  try dsimp only [AExit.then,AExit.block]
  repeat refine AWp.seq ?_
  refine AWp.ret ⟨?_,rfl,rfl,Nat.zero_le _,_,rfl⟩
  rfl
def priceF (c:List (List Int)) (f:Fen):Int:=(c.getD f.1.toNat []).getD f.2.toNat 0
def costF (c:List (List Int)) (l:List Fen):Int:=(l.map (priceF c)).sum
def inCost (c:List (List Int)) (f:Fen):Prop:=0<=f.1/\0<=f.2 /\ ∃ r,c[f.1.toNat]?=some r/\f.2.toNat<r.length
theorem costF_step (c:List (List Int)) (l:List Fen) (z:Nat) (f:Fen) (h:l[z]?=some f):costF c (l.take (z+1))=costF c (l.take z)+priceF c f:=by
 unfold costF
 rw [List.take_add_one,h,List.map_append,List.sum_append];simp
theorem cost_ok (c:List (List Int)) (l:List Fen) (hc : ∀ r∈c,∀ n∈r,0<=n/\n<=9) (hl:l.length<=1000000000) (hin : ∀ f∈l,inCost c f):ACall P 94 [.d (dCost c),.d (.list 2 (l.map dFen))] [] (AI (costF c l)) []:=by
 unfold dCost
 obtain ⟨C,hC⟩ : ∃ X,c.map dRow=X:=⟨_,rfl⟩
 obtain ⟨L,hL⟩ : ∃ X,l.map dFen=X:=⟨_,rfl⟩
 obtain ⟨n,hn⟩ : ∃ n:Int,(L.length:Int)=n:=⟨_,rfl⟩
 have hln:(l.length:Int)=n:=by rw [<-hn,<-hL];simp
 rw [hC,hL]
 refine ACall.enter hT (fn:=Try.f94) Try.func94 rfl (by decide) (by simp [Try.f94]) rfl rfl rfl rfl (Nat.le_refl _) ?_
 repeat refine AWp.seq ?_
 refine AWp.reg1 {} hT (fun A hA=>by cbv) (Nat.zero_le _) ?_
 try dsimp only [AExit.then,AExit.block]
 repeat refine AWp.seq ?_
 refine AWp.reg1 {} hT (fun A hA=>by cbv) (Nat.zero_le _) ?_
 try dsimp only [AExit.then,AExit.block]
 repeat refine AWp.seq ?_
 refine AWp.reg1 {} hT (fun A hA=>by
   have f0:=ar_len hA L n hn
   repeat (cbv;simp only [f0])
   cbv) (Nat.zero_le _) ?_
 try dsimp only [AExit.then,AExit.block]
 refine AWp.block (AWp.loopInv (ι:=Int×Int) (fun p=>0<=p.1/\p.1<=n/\p.2=costF c (l.take p.1.toNat)/\0<=p.2/\p.2<=p.1*9) (fun p=>(n-p.1).toNat) [0,5,8,9,10]
  (fun p=>{ env:=[(0,.d (.list 1 C)),(5,AI p.2),(8,.d (.list 2 L)),(9,AI n),(10,AI p.1)],heap:=[],n:=27 }) (0,0) (by cbv) ⟨Int.le_refl _,by dsimp only;omega,by simp [costF],by simp,by simp⟩ ?_)
 rintro ⟨z,s⟩ ⟨h0,h1,h2,h3,h4⟩
 dsimp only at *
 by_cases hz:z<n
 ·obtain ⟨⟨t,g⟩,hf⟩ : ∃ s,l[z.toNat]?=some s:=⟨_,zp1 (by omega)⟩
  have hLz:L[z.toNat]?=some (.agg [I t,I g]):=by rw [<-hL,List.getElem?_map,hf];rfl
  obtain ⟨q0,q1,r,hr,hg⟩:=hin _ (List.mem_of_getElem? hf)
  dsimp only at q0 q1 hr hg
  obtain ⟨R,hR⟩ : ∃ R,r.map I=R:=⟨_,rfl⟩
  have hCt:C[t.toNat]?=some (.list 1 R):=by rw [<-hC,List.getElem?_map,hr,<-hR];rfl
  obtain ⟨v,hv⟩ : ∃ v,r[g.toNat]?=some v:=⟨_,zp1 hg⟩
  have hRg:R[g.toNat]?=some (I v):=by rw [<-hR,List.getElem?_map,hv];rfl
  have hv9:=hc r (List.mem_of_getElem? hr) v (List.mem_of_getElem? hv)
  have hstep:=costF_step c l z.toNat (t,g) hf
  have hpv:priceF c (t,g)=v:=by
   unfold priceF
   rw [List.getD_eq_getElem?_getD,List.getD_eq_getElem?_getD,hr]
   simp only [Option.getD_some,hv]
  obtain ⟨z1,hz1⟩ : ∃ z1,z+1=z1:=⟨_,rfl⟩
  obtain ⟨s1,hs1⟩ : ∃ z1,s+v=z1:=⟨_,rfl⟩
  rw [hpv,<-h2,hs1,show z.toNat+1=z1.toNat by omega] at hstep
  repeat refine AWp.seq ?_
  refine AWp.reg1 {} hT (fun A hA=>by
    have f0:=ar_lt hA hz
    repeat (cbv;simp only [f0])
    cbv) (Nat.zero_le _) ?_
  try dsimp only [AExit.then,AExit.block]
  repeat refine AWp.seq ?_
  refine AWp.cond (b:=true) rfl (AWp.skip ?_)
  try dsimp only [AExit.then,AExit.block]
  repeat refine AWp.seq ?_
  refine AWp.block ?_
  repeat refine AWp.seq ?_
  refine AWp.reg1 {} hT (fun A hA=>by
    have f0:=ar_get hA hLz
    have f1:=ar_le hA h0
    repeat (cbv;simp only [f0,f1])
    cbv) (Nat.zero_le _) ?_
  try dsimp only [AExit.then,AExit.block]
  repeat refine AWp.seq ?_
  refine AWp.reg1D {} hT rfl (fun A hA=>by
    have f0:=ar_get hA hCt
    have f1:=ar_le hA q0
    have f2:=ar_get hA hRg
    have f3:=ar_le hA q1
    have f4:=ar_add hA s v s1 hs1 (by omega) (by omega)
    repeat (cbv;simp only [f0,f1,f2,f3,f4])
    cbv) (by kernel_rfl) (Nat.zero_le _) ?_
  try dsimp only [AExit.then,AExit.block]
  repeat refine AWp.seq ?_
  refine AWp.reg1 {} hT (fun A hA=>by
    have f0:=ar_add hA z 1 z1 hz1 (by omega) (by omega)
    repeat (cbv;simp only [f0])
    cbv) (Nat.zero_le _) ?_
  try dsimp only [AExit.then,AExit.block]
  exact ⟨(z1,s1),⟨by dsimp only;omega,by dsimp only;omega,hstep.symm,by dsimp only;omega,by dsimp only;omega⟩,by dsimp only;omega,by cbv⟩
 ·rw [List.take_of_length_le (by omega)] at h2
  subst h2
  obtain ⟨S,hS⟩ : ∃ S,costF c l=S:=⟨_,rfl⟩
  rw [hS]
  repeat refine AWp.seq ?_
  refine AWp.reg1 {} hT (fun A hA=>by
    have f0:=ar_nlt hA hz
    repeat (cbv;simp only [f0])
    cbv) (Nat.zero_le _) ?_
  try dsimp only [AExit.then,AExit.block]
  repeat refine AWp.seq ?_
  refine AWp.cond (b:=false) rfl (AWp.exit ?_)
  try dsimp only [AExit.then,AExit.block]
  rw [if_pos rfl]
  repeat refine AWp.seq ?_
  refine AWp.reg1 {} hT (fun A hA=>by cbv) (Nat.zero_le _) ?_
  try dsimp only [AExit.then,AExit.block]
  repeat refine AWp.seq ?_
  refine AWp.ret ⟨?_,rfl,rfl,Nat.zero_le _,_,rfl⟩
  rfl
end Go.Am

namespace Go.Am
open Go Go.Proofs
def okAt (x:List (List Acc)) (l:List Sta) (i:Nat):Bool :=
 there x (l.getD i (0,0,0)).1 (l.getD i (0,0,0)).2.1&&(decide ((l.getD i (0,0,0)).2.1=(l.getD i (0,0,0)).2.2)||isPair x (l.getD i (0,0,0)))&&(l.take i).all fun r => !decide (r.1=(l.getD i (0,0,0)).1)
def cfAt (x:List (List Acc)) (l:List Sta) (i:Nat):Bool :=
 conflict x (l.getD i (0,0,0)).1 (l.getD i (0,0,0)).2.2 (l.getD ((i+1)%l.length) (0,0,0)).1 (l.getD ((i+1)%l.length) (0,0,0)).2.1
def isCircR (x:List (List Acc)) (l:List Sta):Bool :=
 decide (2<=l.length)&&decide (l.length<=3)&&(List.range l.length).all (okAt x l)&&(List.range l.length).all (cfAt x l)&&l.any fun s => !decide (s.2.1=s.2.2)
theorem okAt_there {x:List (List Acc)} {l:List Sta} {i:Nat} (h:okAt x l i=true):there x (l.getD i (0,0,0)).1 (l.getD i (0,0,0)).2.1=true/\there x (l.getD i (0,0,0)).1 (l.getD i (0,0,0)).2.2=true:=by
 unfold okAt at h
 simp only [zp4,Bool.or_eq_true,decide_eq_true_eq] at h
 refine ⟨h.1.1,?_⟩
 rcases h.1.2 with e | e
 ·rw [<-e];exact h.1.1
 ·exact ((isPair_iff x _).1 e).2.2.1
theorem isCircR_ok (x:List (List Acc)) (l:List Sta) (hx:Small x) (hl:l.length<=9223372036854775807):ACall P 81 [.d (dX x),.d (.list 3 (l.map dSta))] [] (AB (isCircR x l)) []:=by
 have cacc:=fun t a=>isAccess_ok x t a hx
 have cpr:=fun t a b=>isPairR_ok x t a b hx
 have ccf:=fun t a u b h h'=>conflictR_ok x t a u b h h'
 obtain ⟨F,hF⟩ : ∃ F,isCircR x l=F:=⟨_,rfl⟩
 rw [hF]
 unfold isCircR at hF
 obtain ⟨X,hX⟩ : ∃ X,dX x=X:=⟨_,rfl⟩
 obtain ⟨L,hL⟩ : ∃ L,l.map dSta=L:=⟨_,rfl⟩
 obtain ⟨n,hn⟩ : ∃ n:Int,(L.length:Int)=n:=⟨_,rfl⟩
 have hln:(l.length:Int)=n:=by rw [<-hn,<-hL];simp
 simp only [hX] at cacc cpr ccf
 rw [hX,hL]
 by_cases h2:n<2
 ·rw [show decide (2<=l.length)=false by simp;omega] at hF
  simp only [Bool.false_and] at hF
  subst hF
  refine ACall.enter hT (fn:=Try.f81) Try.func81 rfl (by decide) (by simp [Try.f81]) rfl rfl rfl rfl (Nat.le_refl _) ?_
  repeat refine AWp.seq ?_
  refine AWp.reg1 {} hT (fun A hA=>by cbv) (Nat.zero_le _) ?_
  try dsimp only [AExit.then,AExit.block]
  repeat refine AWp.seq ?_
  refine AWp.reg1 {} hT (fun A hA=>by
    have f0:=ar_len hA L n hn
    have f1:=ar_lt hA h2
    repeat (cbv;simp only [f0,f1])
    cbv) (Nat.zero_le _) ?_
  try dsimp only [AExit.then,AExit.block]
  repeat refine AWp.seq ?_
  refine AWp.cond (b:=true) rfl ?_
  rw [if_pos rfl]
  repeat refine AWp.seq ?_
  refine AWp.reg1 {} hT (fun A hA=>by cbv) (Nat.zero_le _) ?_
  try dsimp only [AExit.then,AExit.block]
  repeat refine AWp.seq ?_
  refine AWp.ret ⟨?_,rfl,rfl,Nat.zero_le _,_,rfl⟩
  rfl
 by_cases h3:3<n
 ·rw [show decide (l.length<=3)=false by simp;omega] at hF
  simp only [Bool.and_false,Bool.false_and] at hF
  subst hF
  refine ACall.enter hT (fn:=Try.f81) Try.func81 rfl (by decide) (by simp [Try.f81]) rfl rfl rfl rfl (Nat.le_refl _) ?_
  repeat refine AWp.seq ?_
  refine AWp.reg1 {} hT (fun A hA=>by cbv) (Nat.zero_le _) ?_
  try dsimp only [AExit.then,AExit.block]
  repeat refine AWp.seq ?_
  refine AWp.reg1 {} hT (fun A hA=>by
    have f0:=ar_len hA L n hn
    have f1:=ar_nlt hA h2
    have f2:=ar_lt hA h3
    repeat (cbv;simp only [f0,f1,f2])
    cbv) (Nat.zero_le _) ?_
  try dsimp only [AExit.then,AExit.block]
  repeat refine AWp.seq ?_
  refine AWp.cond (b:=true) rfl ?_
  rw [if_pos rfl]
  repeat refine AWp.seq ?_
  refine AWp.reg1 {} hT (fun A hA=>by cbv) (Nat.zero_le _) ?_
  try dsimp only [AExit.then,AExit.block]
  repeat refine AWp.seq ?_
  refine AWp.ret ⟨?_,rfl,rfl,Nat.zero_le _,_,rfl⟩
  rfl
 rw [show decide (2<=l.length)=true by simp;omega,show decide (l.length<=3)=true by simp;omega] at hF
 simp only [Bool.true_and] at hF
 have hno : ∀ i,i<l.length->okAt x l i=false->F=false:=fun i hi h=>by
  rw [<-hF,List.all_eq_false.2 ⟨i,by simpa using hi,by rw [h];decide⟩];rfl
 have hnc : ∀ i,i<l.length->cfAt x l i=false->F=false:=fun i hi h=>by
  rw [<-hF,List.all_eq_false (p:=cfAt x l) |>.2 ⟨i,by simpa using hi,by rw [h];decide⟩];simp
 have hok : ∀ i,okAt x l i=(there x (l.getD i (0,0,0)).1 (l.getD i (0,0,0)).2.1&&(decide ((l.getD i (0,0,0)).2.1=(l.getD i (0,0,0)).2.2)||isPair x (l.getD i (0,0,0)))&&(l.take i).all fun r => !decide (r.1=(l.getD i (0,0,0)).1)):=fun i=>rfl
 have hcf : ∀ i,cfAt x l i=conflict x (l.getD i (0,0,0)).1 (l.getD i (0,0,0)).2.2 (l.getD ((i+1)%l.length) (0,0,0)).1 (l.getD ((i+1)%l.length) (0,0,0)).2.1:=fun i=>rfl
 have hth : ∀ i,okAt x l i=true->_:=fun i h=>okAt_there h
 obtain ⟨ok,hok'⟩ : ∃ f,okAt x l=f:=⟨_,rfl⟩
 obtain ⟨cf,hcf'⟩ : ∃ f,cfAt x l=f:=⟨_,rfl⟩
 rw [hok',hcf'] at hF
 rw [hok'] at hno hok hth
 rw [hcf'] at hnc hcf
 refine ACall.enter hT (fn:=Try.f81) Try.func81 rfl (by decide) (by simp [Try.f81]) rfl rfl rfl rfl (Nat.le_refl _) ?_
 repeat refine AWp.seq ?_
 refine AWp.reg1 {} hT (fun A hA=>by cbv) (Nat.zero_le _) ?_
 try dsimp only [AExit.then,AExit.block]
 repeat refine AWp.seq ?_
 refine AWp.reg1 {} hT (fun A hA=>by
   have f0:=ar_len hA L n hn
   have f1:=ar_nlt hA h2
   have f2:=ar_nlt hA h3
   repeat (cbv;simp only [f0,f1,f2])
   cbv) (Nat.zero_le _) ?_
 try dsimp only [AExit.then,AExit.block]
 repeat refine AWp.seq ?_
 refine AWp.cond (b:=false) rfl (AWp.skip ?_)
 try dsimp only [AExit.then,AExit.block]
 repeat refine AWp.seq ?_
 refine AWp.reg1 {} hT (fun A hA=>by cbv) (Nat.zero_le _) ?_
 try dsimp only [AExit.then,AExit.block]
 repeat refine AWp.seq ?_
 refine AWp.reg1 {} hT (fun A hA=>by
   have f0:=ar_len hA L n hn
   repeat (cbv;simp only [f0])
   cbv) (Nat.zero_le _) ?_
 try dsimp only [AExit.then,AExit.block]
 refine AWp.block (AWp.loopInv (ι:=Int×Bool) (fun p=>0<=p.1/\p.1<=n/\(∀ i,i<p.1.toNat->ok i=true)/\p.2=(l.take p.1.toNat).any fun s => !decide (s.2.1=s.2.2)) (fun p=>(n-p.1).toNat) [0,1,5,21,22,23]
  (fun p=>{ env:=[(0,.d X),(1,.d (.list 3 L)),(5,AB p.2),(21,.d (.list 3 L)),(22,AI n),(23,AI p.1)],heap:=[],n:=99 }) (0,false) (by cbv) ⟨Int.le_refl _,by dsimp only;omega,by simp,by simp⟩ ?_)
 rintro ⟨z,sm⟩ ⟨h0,h1,hc,hp⟩
 dsimp only at *
 by_cases hz:z<n
 ·obtain ⟨⟨t,a,b⟩,hs⟩ : ∃ s,l[z.toNat]?=some s:=⟨_,zp1 (by omega)⟩
  have hLz:L[z.toNat]?=some (.agg [I t,I a,I b]):=by rw [<-hL,List.getElem?_map,hs];rfl
  obtain ⟨z1,hz1⟩ : ∃ z1,z+1=z1:=⟨_,rfl⟩
  have hz1n:z1.toNat=z.toNat+1:=by omega
  have hokz:=hok z.toNat
  rw [List.getD_eq_getElem?_getD,hs] at hokz
  simp only [Option.getD_some] at hokz
  have hno':=hno z.toNat (by omega)
  have c1:=cacc t a
  have c2:=cpr t a b
  obtain ⟨th,hth'⟩ : ∃ th,there x t a=th:=⟨_,rfl⟩
  obtain ⟨pr,hpr⟩ : ∃ th,isPair x (t,a,b)=th:=⟨_,rfl⟩
  rw [hth'] at c1 hokz
  rw [hpr] at c2 hokz
  have hnext:l.take z1.toNat=l.take z.toNat++[(t,a,b)]:=by rw [hz1n,List.take_add_one,hs];rfl
  repeat refine AWp.seq ?_
  refine AWp.reg1 {} hT (fun A hA=>by
    have f0:=ar_lt hA hz
    repeat (cbv;simp only [f0])
    cbv) (Nat.zero_le _) ?_
  try dsimp only [AExit.then,AExit.block]
  repeat refine AWp.seq ?_
  refine AWp.cond (b:=true) rfl (AWp.skip ?_)
  try dsimp only [AExit.then,AExit.block]
  repeat refine AWp.seq ?_
  refine AWp.block ?_
  repeat refine AWp.seq ?_
  refine AWp.reg1 {} hT (fun A hA=>by
    have f0:=ar_get hA hLz
    have f1:=ar_le hA h0
    repeat (cbv;simp only [f0,f1])
    cbv) (Nat.zero_le _) ?_
  try dsimp only [AExit.then,AExit.block]
  cases th with
  | false =>
    repeat refine AWp.seq ?_
    refine AWp.region ?_
    refine AOps.stepCall hT (an:={}) (fun A hA=>by cbv) (Nat.zero_le _) rfl (.inr rfl) rfl rfl rfl (Nat.le_of_ble_eq_true rfl) rfl rfl (c1) ?_
    refine AOps.done hT (an:={}) (fun A hA=>by cbv) (Nat.zero_le _) ?_
    try dsimp only [AExit.then,AExit.block]
    repeat refine AWp.seq ?_
    refine AWp.cond (b:=true) rfl ?_
    rw [if_pos rfl]
    repeat refine AWp.seq ?_
    refine AWp.reg1 {} hT (fun A hA=>by cbv) (Nat.zero_le _) ?_
    try dsimp only [AExit.then,AExit.block]
    repeat refine AWp.seq ?_
    refine AWp.ret ⟨?_,rfl,rfl,Nat.zero_le _,_,rfl⟩
    rw [hno' (by rw [hokz];rfl)];rfl
  | true =>

    refine AWp.cut (fun σ'=>(decide (a=b)||pr)=true/\σ'.keep [0,1,5,6,7,21,22,23]={ env:=[(0,.d X),(1,.d (.list 3 L)),(5,AB sm),(6,AI z),(7,.lbox [AI t,AI a,AI b]),(21,.d (.list 3 L)),(22,AI n),(23,AI z)],heap:=[],n:=99 }) ?_ ?_
    ·by_cases e:a=b
     ·repeat refine AWp.seq ?_
      refine AWp.region ?_
      refine AOps.stepCall hT (an:={}) (fun A hA=>by cbv) (Nat.zero_le _) rfl (.inr rfl) rfl rfl rfl (Nat.le_of_ble_eq_true rfl) rfl rfl (c1) ?_
      refine AOps.done hT (an:={}) (fun A hA=>by
        have f0:=ar_eq hA e
        repeat (cbv;simp only [f0])
        cbv) (Nat.zero_le _) ?_
      try dsimp only [AExit.then,AExit.block]
      repeat refine AWp.seq ?_
      refine AWp.cond (b:=false) rfl (AWp.skip ?_)
      try dsimp only [AExit.then,AExit.block]
      exact ⟨by simp [e],by cbv⟩
     ·repeat refine AWp.seq ?_
      refine AWp.region ?_
      refine AOps.stepCall hT (an:={}) (fun A hA=>by cbv) (Nat.zero_le _) rfl (.inr rfl) rfl rfl rfl (Nat.le_of_ble_eq_true rfl) rfl rfl (c1) ?_
      refine AOps.stepCall hT (an:={}) (fun A hA=>by
        have f0:=ar_ne hA e
        repeat (cbv;simp only [f0])
        cbv) (Nat.zero_le _) rfl (.inr rfl) rfl rfl rfl (Nat.le_of_ble_eq_true rfl) rfl rfl (c2) ?_
      refine AOps.done hT (an:={}) (fun A hA=>by cbv) (Nat.zero_le _) ?_
      try dsimp only [AExit.then,AExit.block]
      cases pr with
      | true =>
        repeat refine AWp.seq ?_
        refine AWp.cond (b:=false) rfl (AWp.skip ?_)
        try dsimp only [AExit.then,AExit.block]
        exact ⟨by simp,by cbv⟩
      | false =>
        repeat refine AWp.seq ?_
        refine AWp.cond (b:=true) rfl ?_
        rw [if_pos rfl]
        repeat refine AWp.seq ?_
        refine AWp.reg1 {} hT (fun A hA=>by cbv) (Nat.zero_le _) ?_
        try dsimp only [AExit.then,AExit.block]
        repeat refine AWp.seq ?_
        refine AWp.ret ⟨?_,rfl,rfl,Nat.zero_le _,_,rfl⟩
        rw [hno' (by rw [hokz];simp [e])];rfl
    ·rintro σ1 ⟨hor,hσ1⟩
     refine AWp.keep [0,1,5,6,7,21,22,23] ?_
     rw [hσ1]
     obtain ⟨e,he⟩ : ∃ e,decide (a=b)=e:=⟨_,rfl⟩
     have heq : ∀ A:Ar,A=Ar.std->A.zeq a b=e:=fun A hA=>by subst hA;exact he
     obtain ⟨sm1,hsm1⟩ : ∃ s1,(sm || !e)=s1:=⟨_,rfl⟩
     have hany:sm1=(l.take z1.toNat).any fun s => !decide (s.2.1=s.2.2):=by rw [hnext,List.any_append,<-hp,<-hsm1,<-he];simp
     obtain ⟨L2,hL2⟩ : ∃ L2,(l.take z.toNat).map dSta=L2:=⟨_,rfl⟩
     have hL2':L.take z.toNat=L2:=by rw [<-hL2,<-hL,List.map_take]
     have hsub : ∀ A:Ar,A=Ar.std->A.sub L 0 z=L2:=fun A hA=>by subst hA;rw [<-hL2'];simp [Ar.std]
     have hL2n:(L2.length:Int)=z:=by rw [<-hL2];simp;omega
     refine AWp.cut (fun σ'=>σ'.keep [0,1,5,6,7,21,22,23]={ env:=[(0,.d X),(1,.d (.list 3 L)),(5,AB sm1),(6,AI z),(7,.lbox [AI t,AI a,AI b]),(21,.d (.list 3 L)),(22,AI n),(23,AI z)],heap:=[],n:=99 }) ?_ ?_
     ·cases sm with
      | true =>
        obtain rfl:sm1=true:=by rw [<-hsm1];rfl
        repeat refine AWp.seq ?_
        refine AWp.reg1 {} hT (fun A hA=>by cbv) (Nat.zero_le _) ?_
        try dsimp only [AExit.then,AExit.block]
        cbv
      | false =>
        obtain rfl:sm1 = !e:=by rw [<-hsm1];rfl
        repeat refine AWp.seq ?_
        refine AWp.reg1 {} hT (fun A hA=>by
          have f0:=heq A hA
          repeat (cbv;simp only [f0])
          cbv) (Nat.zero_le _) ?_
        try dsimp only [AExit.then,AExit.block]
        cbv
     rintro σ2 hσ2
     refine AWp.keep [0,1,5,6,7,21,22,23] ?_
     rw [hσ2]
     repeat refine AWp.seq ?_
     refine AWp.reg1 {} hT (fun A hA=>by
       have f0:=hsub A hA
       have f1:=ar_len hA L2 z hL2n
       have f2:=ar_len hA L n hn
       have f3:=ar_le hA h0
       have f4:=ar_le hA h1
       have f5:=ar_le hA (Int.le_refl 0)
       repeat (cbv;simp only [f0,f1,f2,f3,f4,f5])
       cbv) (Nat.zero_le _) ?_
     try dsimp only [AExit.then,AExit.block]
     refine AWp.block (AWp.loopInv (ι:=Int) (fun y=>0<=y/\y<=z /\ ∀ r∈l.take y.toNat,decide (r.1=t)=false) (fun y=>(z-y).toNat) [0,1,5,6,7,21,22,23,58,59,60]
      (fun y=>{ env:=[(0,.d X),(1,.d (.list 3 L)),(5,AB sm1),(6,AI z),(7,.lbox [AI t,AI a,AI b]),(21,.d (.list 3 L)),(22,AI n),(23,AI z),(58,.d (.list 3 L2)),(59,AI z),(60,AI y)],heap:=[],n:=99 }) 0 (by cbv) ⟨Int.le_refl _,by omega,by simp⟩ ?_)
     rintro y ⟨g0,g1,g2⟩
     by_cases hy:y<z
     ·obtain ⟨⟨u,c,d⟩,hu⟩ : ∃ s,l[y.toNat]?=some s:=⟨_,zp1 (by omega)⟩
      have hLy:L2[y.toNat]?=some (.agg [I u,I c,I d]):=by rw [<-hL2',List.getElem?_take_of_lt (by omega),<-hL,List.getElem?_map,hu];rfl
      obtain ⟨y1,hy1⟩ : ∃ z1,y+1=z1:=⟨_,rfl⟩
      repeat refine AWp.seq ?_
      refine AWp.reg1 {} hT (fun A hA=>by
        have f0:=ar_lt hA hy
        repeat (cbv;simp only [f0])
        cbv) (Nat.zero_le _) ?_
      try dsimp only [AExit.then,AExit.block]
      repeat refine AWp.seq ?_
      refine AWp.cond (b:=true) rfl (AWp.skip ?_)
      try dsimp only [AExit.then,AExit.block]
      repeat refine AWp.seq ?_
      refine AWp.block ?_
      repeat refine AWp.seq ?_
      refine AWp.reg1 {} hT (fun A hA=>by
        have f0:=ar_get hA hLy
        have f1:=ar_le hA g0
        repeat (cbv;simp only [f0,f1])
        cbv) (Nat.zero_le _) ?_
      try dsimp only [AExit.then,AExit.block]
      by_cases eu:u=t
      ·repeat refine AWp.seq ?_
       refine AWp.reg1 {} hT (fun A hA=>by
         have f0:=ar_eq hA eu
         repeat (cbv;simp only [f0])
         cbv) (Nat.zero_le _) ?_
       try dsimp only [AExit.then,AExit.block]
       repeat refine AWp.seq ?_
       refine AWp.cond (b:=true) rfl ?_
       rw [if_pos rfl]
       repeat refine AWp.seq ?_
       refine AWp.reg1 {} hT (fun A hA=>by cbv) (Nat.zero_le _) ?_
       try dsimp only [AExit.then,AExit.block]
       repeat refine AWp.seq ?_
       refine AWp.ret ⟨?_,rfl,rfl,Nat.zero_le _,_,rfl⟩
       have:(l.take z.toNat).all (fun r => !decide (r.1=t))=false:=by
        rw [List.all_eq_false]
        refine ⟨(u,c,d),?_,by simp [eu]⟩
        exact List.mem_of_getElem? (i:=y.toNat) (by rw [List.getElem?_take_of_lt (by omega)];exact hu)
       rw [hno' (by rw [hokz,this];simp)];rfl
      ·repeat refine AWp.seq ?_
       refine AWp.reg1 {} hT (fun A hA=>by
         have f0:=ar_ne hA eu
         repeat (cbv;simp only [f0])
         cbv) (Nat.zero_le _) ?_
       try dsimp only [AExit.then,AExit.block]
       repeat refine AWp.seq ?_
       refine AWp.cond (b:=false) rfl (AWp.skip ?_)
       try dsimp only [AExit.then,AExit.block]
       repeat refine AWp.seq ?_
       refine AWp.reg1 {} hT (fun A hA=>by
         have f0:=ar_add hA y 1 y1 hy1 (by omega) (by omega)
         repeat (cbv;simp only [f0])
         cbv) (Nat.zero_le _) ?_
       try dsimp only [AExit.then,AExit.block]
       refine ⟨y1,⟨by omega,by omega,?_⟩,by omega,by cbv⟩
       intro r hr
       rw [show y1.toNat=y.toNat+1 by omega,List.take_add_one,hu] at hr
       simp only [Option.toList_some,List.mem_append,List.mem_singleton] at hr
       rcases hr with hr | rfl
       ·exact g2 r hr
       ·simp [eu]
     ·repeat refine AWp.seq ?_
      refine AWp.reg1 {} hT (fun A hA=>by
        have f0:=ar_nlt hA hy
        repeat (cbv;simp only [f0])
        cbv) (Nat.zero_le _) ?_
      try dsimp only [AExit.then,AExit.block]
      repeat refine AWp.seq ?_
      refine AWp.cond (b:=false) rfl (AWp.exit ?_)
      try dsimp only [AExit.then,AExit.block]
      rw [if_pos rfl]
      repeat refine AWp.seq ?_
      refine AWp.reg1 {} hT (fun A hA=>by
        have f0:=ar_add hA z 1 z1 hz1 (by omega) (by omega)
        repeat (cbv;simp only [f0])
        cbv) (Nat.zero_le _) ?_
      try dsimp only [AExit.then,AExit.block]
      refine ⟨(z1,sm1),⟨by dsimp only;omega,by dsimp only;omega,fun i hi => ?_,hany⟩,by dsimp only;omega,by cbv⟩
      dsimp only at hi
      rcases Nat.lt_or_ge i z.toNat with h | h
      ·exact hc i h
      ·rw [show i=z.toNat by omega,hokz,hor,show z=y by omega]
       simp only [Bool.and_self,Bool.true_and,List.all_eq_true]
       intro r hr
       rw [g2 r hr];rfl
 ·have hzn:z=n:=by omega
  subst hzn
  rw [List.take_of_length_le (by omega)] at hp
  rw [List.all_eq_true.2 (fun i hi=>hc i (by have:=List.mem_range.1 hi;omega)),Bool.true_and,<-hp] at hF
  repeat refine AWp.seq ?_
  refine AWp.reg1 {} hT (fun A hA=>by
    have f0:=ar_nlt hA hz
    repeat (cbv;simp only [f0])
    cbv) (Nat.zero_le _) ?_
  try dsimp only [AExit.then,AExit.block]
  repeat refine AWp.seq ?_
  refine AWp.cond (b:=false) rfl (AWp.exit ?_)
  try dsimp only [AExit.then,AExit.block]
  rw [if_pos rfl]
  repeat refine AWp.seq ?_
  refine AWp.reg1 {} hT (fun A hA=>by
    have f0:=ar_len hA L z hn
    repeat (cbv;simp only [f0])
    cbv) (Nat.zero_le _) ?_
  try dsimp only [AExit.then,AExit.block]
  refine AWp.block (AWp.loopInv (ι:=Int) (fun y=>0<=y/\y<=z /\ ∀ i,i<y.toNat->cf i=true) (fun y=>(z-y).toNat) [0,1,5,71,72,73]
   (fun y=>{ env:=[(0,.d X),(1,.d (.list 3 L)),(5,AB sm),(71,.d (.list 3 L)),(72,AI z),(73,AI y)],heap:=[],n:=99 }) 0 (by cbv) ⟨Int.le_refl _,by omega,by simp⟩ ?_)
  rintro y ⟨g0,g1,g2⟩
  by_cases hy:y<z
  ·obtain ⟨⟨t,a,b⟩,hs⟩ : ∃ s,l[y.toNat]?=some s:=⟨_,zp1 (by omega)⟩
   have hLz:L[y.toNat]?=some (.agg [I t,I a,I b]):=by rw [<-hL,List.getElem?_map,hs];rfl
   obtain ⟨y1,hy1⟩ : ∃ z1,y+1=z1:=⟨_,rfl⟩
   obtain ⟨q,hq⟩ : ∃ q,y1.tmod z=q:=⟨_,rfl⟩
   have hq':q=((y1.toNat%l.length:Nat):Int):=by
    rw [<-hq,show y1=(y1.toNat:Int) by omega,<-hln,Int.ofNat_tmod];simp
   have hlpos:0<l.length:=by omega
   have hqlt:q.toNat<l.length:=by rw [hq'];have:=Nat.mod_lt y1.toNat hlpos;omega
   have hq0:0<=q:=by omega
   obtain ⟨⟨t',a',b'⟩,hs'⟩ : ∃ s,l[q.toNat]?=some s:=⟨_,zp1 hqlt⟩
   have hLq:L[q.toNat]?=some (.agg [I t',I a',I b']):=by rw [<-hL,List.getElem?_map,hs'];rfl
   have hat:=hcf y.toNat
   rw [show y.toNat+1=y1.toNat by omega,show y1.toNat%l.length=q.toNat by omega,List.getD_eq_getElem?_getD,hs,List.getD_eq_getElem?_getD,hs'] at hat
   simp only [Option.getD_some] at hat
   have k1:=(hth y.toNat (hc _ (by omega))).2
   have k2:=(hth q.toNat (hc _ (by omega))).1
   rw [List.getD_eq_getElem?_getD,hs] at k1
   rw [List.getD_eq_getElem?_getD,hs'] at k2
   have c3:=ccf _ _ _ _ k1 k2
   simp only [Option.getD_some] at c3
   obtain ⟨r,hr⟩ : ∃ r,conflict x t b t' a'=r:=⟨_,rfl⟩
   rw [hr] at c3 hat
   have hrem : ∀ A:Ar,A=Ar.std->A.rem y1 z=q:=fun A hA=>by subst hA;exact hq
   have hnc':=hnc y.toNat (by omega)
   repeat refine AWp.seq ?_
   refine AWp.reg1 {} hT (fun A hA=>by
     have f0:=ar_lt hA hy
     repeat (cbv;simp only [f0])
     cbv) (Nat.zero_le _) ?_
   try dsimp only [AExit.then,AExit.block]
   repeat refine AWp.seq ?_
   refine AWp.cond (b:=true) rfl (AWp.skip ?_)
   try dsimp only [AExit.then,AExit.block]
   repeat refine AWp.seq ?_
   refine AWp.block ?_
   repeat refine AWp.seq ?_
   refine AWp.reg1 {} hT (fun A hA=>by
     have f0:=ar_get hA hLz
     have f1:=ar_le hA g0
     repeat (cbv;simp only [f0,f1])
     cbv) (Nat.zero_le _) ?_
   try dsimp only [AExit.then,AExit.block]
   repeat refine AWp.seq ?_
   refine AWp.reg1 {} hT (fun A hA=>by
     have f0:=ar_add hA y 1 y1 hy1 (by omega) (by omega)
     have f1:=ar_len hA L z hn
     have f2:=ar_ne hA (show ¬ z=0 by omega)
     have f3:=hrem A hA
     have f4:=ar_get hA hLq
     have f5:=ar_le hA hq0
     repeat (cbv;simp only [f0,f1,f2,f3,f4,f5])
     cbv) (Nat.zero_le _) ?_
   try dsimp only [AExit.then,AExit.block]
   repeat refine AWp.seq ?_
   refine AWp.region ?_
   refine AOps.stepCall hT (an:={}) (fun A hA=>by cbv) (Nat.zero_le _) rfl (.inr rfl) rfl rfl rfl (Nat.le_of_ble_eq_true rfl) rfl rfl (c3) ?_
   refine AOps.done hT (an:={}) (fun A hA=>by cbv) (Nat.zero_le _) ?_
   try dsimp only [AExit.then,AExit.block]
   cases r with
   | false =>
     repeat refine AWp.seq ?_
     refine AWp.cond (b:=true) rfl ?_
     rw [if_pos rfl]
     repeat refine AWp.seq ?_
     refine AWp.reg1 {} hT (fun A hA=>by cbv) (Nat.zero_le _) ?_
     try dsimp only [AExit.then,AExit.block]
     repeat refine AWp.seq ?_
     refine AWp.ret ⟨?_,rfl,rfl,Nat.zero_le _,_,rfl⟩
     rw [hnc' hat];rfl
   | true =>
     repeat refine AWp.seq ?_
     refine AWp.cond (b:=false) rfl (AWp.skip ?_)
     try dsimp only [AExit.then,AExit.block]
     repeat refine AWp.seq ?_
     refine AWp.reg1 {} hT (fun A hA=>by
       have f0:=ar_add hA y 1 y1 hy1 (by omega) (by omega)
       repeat (cbv;simp only [f0])
       cbv) (Nat.zero_le _) ?_
     try dsimp only [AExit.then,AExit.block]
     refine ⟨y1,⟨by omega,by omega,fun i hi => ?_⟩,by omega,by cbv⟩
     rcases Nat.lt_or_ge i y.toNat with h | h
     ·exact g2 i h
     ·rw [show i=y.toNat by omega,hat]
  ·repeat refine AWp.seq ?_
   refine AWp.reg1 {} hT (fun A hA=>by
     have f0:=ar_nlt hA hy
     repeat (cbv;simp only [f0])
     cbv) (Nat.zero_le _) ?_
   try dsimp only [AExit.then,AExit.block]
   repeat refine AWp.seq ?_
   refine AWp.cond (b:=false) rfl (AWp.exit ?_)
   try dsimp only [AExit.then,AExit.block]
   rw [if_pos rfl]
   repeat refine AWp.seq ?_
   refine AWp.reg1 {} hT (fun A hA=>by cbv) (Nat.zero_le _) ?_
   try dsimp only [AExit.then,AExit.block]
   repeat refine AWp.seq ?_
   refine AWp.ret ⟨?_,rfl,rfl,Nat.zero_le _,_,rfl⟩
   rw [List.all_eq_true.2 (fun i hi=>g2 i (by have:=List.mem_range.1 hi;omega)),Bool.true_and] at hF
   rw [hF];rfl
end Go.Am

namespace Go.Am
open Go Go.Proofs
def stRB (x:List (List Acc)) (t a n:Nat):List Sta:=((List.range n).filter fun (b:Nat)=>(decide (a=b)||isPair x ((t:Int),(a:Int),(b:Int)))).map fun (b:Nat)=>((t:Int),(a:Int),(b:Int))
def stRA (x:List (List Acc)) (t n m:Nat):List Sta:=(List.range m).flatMap fun a=>stRB x t a n
def stRT (x:List (List Acc)) (n:Nat):List Sta:=(List.range n).flatMap fun t=>stRA x t (x.getD t []).length (x.getD t []).length
def stationsR (x:List (List Acc)):List Sta:=stRT x x.length
theorem stRB_succ (x:List (List Acc)) (t a n:Nat):stRB x t a (n+1)=stRB x t a n++if (decide (a=n)||isPair x ((t:Int),(a:Int),(n:Int))) then [((t:Int),(a:Int),(n:Int))] else []:=by
 unfold stRB
 rw [List.range_succ,List.filter_append,List.map_append]
 congr 1
 simp only [List.filter_cons,List.filter_nil]
 split <;> rfl
theorem stationsR_ok (x:List (List Acc)) (hx:Small x):ACall P 74 [.d (dX x)] [] (.own 3 ((stationsR x).map dSta)) []:=by
 have cp:=fun t a b=>isPairR_ok x t a b hx
 unfold dX at *
 obtain ⟨X,hX⟩ : ∃ X,x.map dAccs=X:=⟨_,rfl⟩
 obtain ⟨n,hn⟩ : ∃ n:Int,(X.length:Int)=n:=⟨_,rfl⟩
 have hxl:(x.length:Int)=n:=by rw [<-hn,<-hX];simp
 have hs:=hx.1
 rw [hX] at cp ⊢
 have hS : ∀ m,stRT x (m+1)=stRT x m++stRA x m (x.getD m []).length (x.getD m []).length:=fun m=>flatMap_range_succ _ _
 have hSA : ∀ t n m,stRA x t n (m+1)=stRA x t n m++stRB x t m n:=fun t n m=>flatMap_range_succ _ _
 refine ACall.enter hT (fn:=Try.f74) Try.func74 rfl (by decide) (by simp [Try.f74]) rfl rfl rfl rfl (Nat.le_refl _) ?_
 repeat refine AWp.seq ?_
 refine AWp.reg1 {tk:=[3]} hT (fun A hA=>by cbv) (Nat.zero_le _) ?_
 try dsimp only [AExit.then,AExit.block]
 repeat refine AWp.seq ?_
 refine AWp.reg1 {tk:=[3]} hT (fun A hA=>by cbv) (Nat.zero_le _) ?_
 try dsimp only [AExit.then,AExit.block]
 repeat refine AWp.seq ?_
 refine AWp.reg1 {} hT (fun A hA=>by
   have f0:=ar_len hA X n hn
   repeat (cbv;simp only [f0])
   cbv) (Nat.zero_le _) ?_
 try dsimp only [AExit.then,AExit.block]
 refine AWp.block (AWp.loopInv (ι:=Int×List D) (fun p=>0<=p.1/\p.1<=n/\p.2=(stRT x p.1.toNat).map dSta/\p.2.length<=p.1*1000000) (fun p=>(n-p.1).toNat) [0,3,9,10,11]
  (fun p=>{ env:=[(0,.d (.list 1 X)),(3,.own 3 p.2),(9,.d (.list 1 X)),(10,AI n),(11,AI p.1)],heap:=[],n:=46 }) (0,[]) (by cbv) ⟨Int.le_refl _,by dsimp only;omega,rfl,by simp⟩ ?_)
 rintro ⟨z,l⟩ ⟨h0,h1,hl,hlen⟩
 dsimp only at *
 by_cases hz:z<n
 ·obtain ⟨L,hL⟩ : ∃ L,x[z.toNat]?=some L:=⟨_,zp1 (by omega)⟩
  obtain ⟨L',hL'⟩ : ∃ L',L.map dAcc=L':=⟨_,rfl⟩
  obtain ⟨k,hk⟩ : ∃ n:Int,(L'.length:Int)=n:=⟨_,rfl⟩
  have hkL:(L.length:Int)=k:=by rw [<-hk,<-hL'];simp
  have hs2:=hx.2 L (List.mem_of_getElem? hL)
  have hXt:X[z.toNat]?=some (.list 2 L'):=by rw [<-hX,List.getElem?_map,hL,<-hL'];rfl
  obtain ⟨z1,hz1⟩ : ∃ z1,z+1=z1:=⟨_,rfl⟩
  repeat refine AWp.seq ?_
  refine AWp.reg1 {} hT (fun A hA=>by
    have f0:=ar_lt hA hz
    repeat (cbv;simp only [f0])
    cbv) (Nat.zero_le _) ?_
  try dsimp only [AExit.then,AExit.block]
  repeat refine AWp.seq ?_
  refine AWp.cond (b:=true) rfl (AWp.skip ?_)
  try dsimp only [AExit.then,AExit.block]
  repeat refine AWp.seq ?_
  refine AWp.block ?_
  repeat refine AWp.seq ?_
  refine AWp.reg1 {} hT (fun A hA=>by
    have f0:=ar_get hA hXt
    have f1:=ar_le hA h0
    repeat (cbv;simp only [f0,f1])
    cbv) (Nat.zero_le _) ?_
  try dsimp only [AExit.then,AExit.block]
  repeat refine AWp.seq ?_
  refine AWp.reg1 {} hT (fun A hA=>by
    have f0:=ar_len hA L' k hk
    repeat (cbv;simp only [f0])
    cbv) (Nat.zero_le _) ?_
  try dsimp only [AExit.then,AExit.block]
  refine AWp.block (AWp.loopInv (ι:=Int×List D) (fun p=>0<=p.1/\p.1<=k/\p.2=l++(stRA x z.toNat L.length p.1.toNat).map dSta/\p.2.length<=z*1000000+p.1*1000) (fun p=>(k-p.1).toNat) [0,3,4,5,9,10,11,17,18]
   (fun p=>{ env:=[(0,.d (.list 1 X)),(3,.own 3 p.2),(4,AI z),(5,.d (.list 2 L')),(9,.d (.list 1 X)),(10,AI n),(11,AI z),(17,AI k),(18,AI p.1)],heap:=[],n:=46 }) (0,l) (by cbv) ⟨Int.le_refl _,by dsimp only;omega,by simp [stRA],by simpa using hlen⟩ ?_)
  rintro ⟨y,l1⟩ ⟨g0,g1,gl,glen⟩
  dsimp only at *
  by_cases hy:y<k
  ·obtain ⟨y1,hy1⟩ : ∃ z1,y+1=z1:=⟨_,rfl⟩
   repeat refine AWp.seq ?_
   refine AWp.reg1 {} hT (fun A hA=>by
     have f0:=ar_lt hA hy
     repeat (cbv;simp only [f0])
     cbv) (Nat.zero_le _) ?_
   try dsimp only [AExit.then,AExit.block]
   repeat refine AWp.seq ?_
   refine AWp.cond (b:=true) rfl (AWp.skip ?_)
   try dsimp only [AExit.then,AExit.block]
   repeat refine AWp.seq ?_
   refine AWp.block ?_
   repeat refine AWp.seq ?_
   refine AWp.reg1 {} hT (fun A hA=>by cbv) (Nat.zero_le _) ?_
   try dsimp only [AExit.then,AExit.block]
   repeat refine AWp.seq ?_
   refine AWp.reg1 {} hT (fun A hA=>by
     have f0:=ar_len hA L' k hk
     repeat (cbv;simp only [f0])
     cbv) (Nat.zero_le _) ?_
   try dsimp only [AExit.then,AExit.block]
   refine AWp.block (AWp.loopInv (ι:=Int×List D) (fun p=>0<=p.1/\p.1<=k/\p.2=l1++(stRB x z.toNat y.toNat p.1.toNat).map dSta/\p.2.length<=z*1000000+y*1000+p.1) (fun p=>(k-p.1).toNat) [0,3,4,5,6,9,10,11,17,18,22,23]
    (fun p=>{ env:=[(0,.d (.list 1 X)),(3,.own 3 p.2),(4,AI z),(5,.d (.list 2 L')),(6,AI y),(9,.d (.list 1 X)),(10,AI n),(11,AI z),(17,AI k),(18,AI y),(22,AI k),(23,AI p.1)],heap:=[],n:=46 }) (0,l1) (by cbv) ⟨Int.le_refl _,by dsimp only;omega,by simp [stRB],by dsimp only;omega⟩ ?_)
   rintro ⟨v,l2⟩ ⟨e0,e1,el,elen⟩
   dsimp only at *
   by_cases hv:v<k
   ·obtain ⟨v1,hv1⟩ : ∃ z1,v+1=z1:=⟨_,rfl⟩
    obtain ⟨l3,hl3⟩ : ∃ l3,l2++[.agg [I z,I y,I v]]=l3:=⟨_,rfl⟩
    have hstep:=stRB_succ x z.toNat y.toNat v.toNat
    rw [show (z.toNat:Int)=z by omega,show (y.toNat:Int)=y by omega,show (v.toNat:Int)=v by omega,show v.toNat+1=v1.toNat by omega] at hstep
    have hcp:=cp z y v
    obtain ⟨r,hr⟩ : ∃ r,isPair x (z,y,v)=r:=⟨_,rfl⟩
    rw [hr] at hcp hstep
    have grow:l3.length<=z*1000000+y*1000+v1:=by rw [<-hl3];simp;omega
    have hyes:stRB x z.toNat y.toNat v1.toNat=stRB x z.toNat y.toNat v.toNat++[(z,y,v)]->l3=l1++(stRB x z.toNat y.toNat v1.toNat).map dSta:=fun h=>by
     rw [h,List.map_append,<-List.append_assoc,<-el,<-hl3];rfl
    repeat refine AWp.seq ?_
    refine AWp.reg1 {} hT (fun A hA=>by
      have f0:=ar_lt hA hv
      repeat (cbv;simp only [f0])
      cbv) (Nat.zero_le _) ?_
    try dsimp only [AExit.then,AExit.block]
    repeat refine AWp.seq ?_
    refine AWp.cond (b:=true) rfl (AWp.skip ?_)
    try dsimp only [AExit.then,AExit.block]
    repeat refine AWp.seq ?_
    refine AWp.block ?_
    repeat refine AWp.seq ?_
    refine AWp.reg1 {} hT (fun A hA=>by cbv) (Nat.zero_le _) ?_
    try dsimp only [AExit.then,AExit.block]
    repeat refine AWp.seq ?_
    refine AWp.reg1 {} hT (fun A hA=>by cbv) (Nat.zero_le _) ?_
    try dsimp only [AExit.then,AExit.block]
    by_cases e:y=v
    ·rw [show decide (y.toNat=v.toNat)=true by simp;omega] at hstep
     repeat refine AWp.seq ?_
     refine AWp.reg1 {} hT (fun A hA=>by
       have f0:=ar_eq hA e
       repeat (cbv;simp only [f0])
       cbv) (Nat.zero_le _) ?_
     try dsimp only [AExit.then,AExit.block]
     repeat refine AWp.seq ?_
     refine AWp.cond (b:=true) rfl ?_
     rw [if_pos rfl]
     repeat refine AWp.seq ?_
     refine AWp.reg1 {tk:=[3,38,41]} hT (fun A hA=>by
       have f0:=ar_app hA _ _ _ hl3
       have f1:=ar_fits hA l2 [.agg [I z,I y,I v]] (by simp;omega)
       repeat (cbv;simp only [f0,f1])
       cbv) (Nat.zero_le _) ?_
     try dsimp only [AExit.then,AExit.block]
     repeat refine AWp.seq ?_
     refine AWp.reg1 {} hT (fun A hA=>by
       have f0:=ar_add hA v 1 v1 hv1 (by omega) (by omega)
       repeat (cbv;simp only [f0])
       cbv) (Nat.zero_le _) ?_
     try dsimp only [AExit.then,AExit.block]
     refine ⟨(v1,l3),⟨by dsimp only;omega,by dsimp only;omega,hyes (by rw [hstep];simp),grow⟩,by dsimp only;omega,by cbv⟩
    ·rw [show decide (y.toNat=v.toNat)=false by simp;omega] at hstep
     repeat refine AWp.seq ?_
     refine AWp.region ?_
     refine AOps.stepCall hT (an:={}) (fun A hA=>by
       have f0:=ar_ne hA e
       repeat (cbv;simp only [f0])
       cbv) (Nat.zero_le _) rfl (.inr rfl) rfl rfl rfl (Nat.le_of_ble_eq_true rfl) rfl rfl (hcp) ?_
     refine AOps.done hT (an:={}) (fun A hA=>by cbv) (Nat.zero_le _) ?_
     try dsimp only [AExit.then,AExit.block]
     cases r with
     | true =>
       repeat refine AWp.seq ?_
       refine AWp.cond (b:=true) rfl ?_
       rw [if_pos rfl]
       repeat refine AWp.seq ?_
       refine AWp.reg1 {tk:=[3,38,41]} hT (fun A hA=>by
         have f0:=ar_app hA _ _ _ hl3
         have f1:=ar_fits hA l2 [.agg [I z,I y,I v]] (by simp;omega)
         repeat (cbv;simp only [f0,f1])
         cbv) (Nat.zero_le _) ?_
       try dsimp only [AExit.then,AExit.block]
       repeat refine AWp.seq ?_
       refine AWp.reg1 {} hT (fun A hA=>by
         have f0:=ar_add hA v 1 v1 hv1 (by omega) (by omega)
         repeat (cbv;simp only [f0])
         cbv) (Nat.zero_le _) ?_
       try dsimp only [AExit.then,AExit.block]
       refine ⟨(v1,l3),⟨by dsimp only;omega,by dsimp only;omega,hyes (by rw [hstep];simp),grow⟩,by dsimp only;omega,by cbv⟩
     | false =>
       repeat refine AWp.seq ?_
       refine AWp.cond (b:=false) rfl (AWp.skip ?_)
       try dsimp only [AExit.then,AExit.block]
       repeat refine AWp.seq ?_
       refine AWp.reg1 {} hT (fun A hA=>by
         have f0:=ar_add hA v 1 v1 hv1 (by omega) (by omega)
         repeat (cbv;simp only [f0])
         cbv) (Nat.zero_le _) ?_
       try dsimp only [AExit.then,AExit.block]
       refine ⟨(v1,l2),⟨by dsimp only;omega,by dsimp only;omega,by dsimp only;rw [hstep,el];simp,by dsimp only;omega⟩,by dsimp only;omega,by cbv⟩
   ·repeat refine AWp.seq ?_
    refine AWp.reg1 {} hT (fun A hA=>by
      have f0:=ar_nlt hA hv
      repeat (cbv;simp only [f0])
      cbv) (Nat.zero_le _) ?_
    try dsimp only [AExit.then,AExit.block]
    repeat refine AWp.seq ?_
    refine AWp.cond (b:=false) rfl (AWp.exit ?_)
    try dsimp only [AExit.then,AExit.block]
    rw [if_pos rfl]
    repeat refine AWp.seq ?_
    refine AWp.reg1 {} hT (fun A hA=>by
      have f0:=ar_add hA y 1 y1 hy1 (by omega) (by omega)
      repeat (cbv;simp only [f0])
      cbv) (Nat.zero_le _) ?_
    try dsimp only [AExit.then,AExit.block]
    refine ⟨(y1,l2),⟨by dsimp only;omega,by dsimp only;omega,?_,by dsimp only;omega⟩,by dsimp only;omega,by cbv⟩
    dsimp only
    rw [show y1.toNat=y.toNat+1 by omega,hSA,List.map_append,<-List.append_assoc,<-gl,el,show v.toNat=L.length by omega]
  ·repeat refine AWp.seq ?_
   refine AWp.reg1 {} hT (fun A hA=>by
     have f0:=ar_nlt hA hy
     repeat (cbv;simp only [f0])
     cbv) (Nat.zero_le _) ?_
   try dsimp only [AExit.then,AExit.block]
   repeat refine AWp.seq ?_
   refine AWp.cond (b:=false) rfl (AWp.exit ?_)
   try dsimp only [AExit.then,AExit.block]
   rw [if_pos rfl]
   repeat refine AWp.seq ?_
   refine AWp.reg1 {} hT (fun A hA=>by
     have f0:=ar_add hA z 1 z1 hz1 (by omega) (by omega)
     repeat (cbv;simp only [f0])
     cbv) (Nat.zero_le _) ?_
   try dsimp only [AExit.then,AExit.block]
   refine ⟨(z1,l1),⟨by dsimp only;omega,by dsimp only;omega,?_,by dsimp only;omega⟩,by dsimp only;omega,by cbv⟩
   dsimp only
   rw [show z1.toNat=z.toNat+1 by omega,hS,List.map_append,<-hl,List.getD_eq_getElem?_getD,hL,gl,show y.toNat=L.length by omega]
   rfl
 ·repeat refine AWp.seq ?_
  refine AWp.reg1 {} hT (fun A hA=>by
    have f0:=ar_nlt hA hz
    repeat (cbv;simp only [f0])
    cbv) (Nat.zero_le _) ?_
  try dsimp only [AExit.then,AExit.block]
  repeat refine AWp.seq ?_
  refine AWp.cond (b:=false) rfl (AWp.exit ?_)
  try dsimp only [AExit.then,AExit.block]
  rw [if_pos rfl]
  repeat refine AWp.seq ?_
  refine AWp.reg1 {tk:=[3,45]} hT (fun A hA=>by cbv) (Nat.zero_le _) ?_
  try dsimp only [AExit.then,AExit.block]
  repeat refine AWp.seq ?_
  refine AWp.ret ⟨?_,rfl,rfl,Nat.zero_le _,_,rfl⟩
  rw [stationsR,show x.length=z.toNat by omega,<-hl];rfl
end Go.Am

namespace Go.Am
open Go Go.Proofs
def dLs (l:List Sta):D := .list 3 (l.map dSta)
def circ3R (x:List (List Acc)) (s q r:Sta):List (List Sta):=if isCircR x [s,q,r] then [[s,q,r]] else []
def circ2R (x:List (List Acc)) (all:List Sta) (s q:Sta):List (List Sta) :=
 if decide (s.1=q.1) || !conflict x s.1 s.2.2 q.1 q.2.1 then [] else (if isCircR x [s,q] then [[s,q]] else [])++all.flatMap (circ3R x s q)
def circlesR (x:List (List Acc)):List (List Sta):=(stationsR x).flatMap fun s=>(stationsR x).flatMap (circ2R x (stationsR x) s)
theorem flatMap_take_succ {α β:Type} (l:List α) (f:α->List β) (n:Nat) (a:α) (h:l[n]?=some a):(l.take (n+1)).flatMap f=(l.take n).flatMap f++f a:=by
 rw [List.take_add_one,h,List.flatMap_append];simp
theorem circlesR_ok (x:List (List Acc)) (hx:Small x) (hlen:(stationsR x).length<=1000) (hth : ∀ s∈stationsR x,isThere x s=true):ACall P 82 [.d (dX x)] [] (.own 1 ((circlesR x).map dLs)) []:=by
 have cst:=stationsR_ok x hx
 have cic:=fun (l:List Sta) (h:l.length<=3)=>isCircR_ok x l hx (by omega)
 have ccf:=fun t a u b h h'=>conflictR_ok x t a u b h h'
 have hth' : ∀ s∈stationsR x,there x s.1 s.2.1=true/\there x s.1 s.2.2=true:=fun s hs=>by
  have:=hth s hs;unfold isThere at this;simpa using this
 unfold circlesR
 obtain ⟨all,hall⟩ : ∃ l,stationsR x=l:=⟨_,rfl⟩
 rw [hall] at cst hlen hth' ⊢
 obtain ⟨S,hS⟩ : ∃ S,all.map dSta=S:=⟨_,rfl⟩
 obtain ⟨n,hn⟩ : ∃ n:Int,(S.length:Int)=n:=⟨_,rfl⟩
 have hln:(all.length:Int)=n:=by rw [<-hn,<-hS];simp
 obtain ⟨X,hX⟩ : ∃ X,dX x=X:=⟨_,rfl⟩
 simp only [hX] at cic ccf
 rw [hX,hS] at cst
 rw [hX]
 obtain ⟨G1,hG1⟩ : ∃ G:Sta->List (List Sta),(fun s=>all.flatMap (circ2R x all s))=G:=⟨_,rfl⟩
 have hg1 : ∀ s,G1 s=all.flatMap (circ2R x all s):=fun s=>by rw [<-hG1]
 rw [hG1]
 refine ACall.enter hT (fn:=Try.f82) Try.func82 rfl (by decide) (by simp [Try.f82]) rfl rfl rfl rfl (Nat.le_refl _) ?_
 repeat refine AWp.seq ?_
 refine AWp.reg1 {tk:=[2]} hT (fun A hA=>by cbv) (Nat.zero_le _) ?_
 try dsimp only [AExit.then,AExit.block]
 repeat refine AWp.seq ?_
 refine AWp.reg1 {tk:=[3]} hT (fun A hA=>by cbv) (Nat.zero_le _) ?_
 try dsimp only [AExit.then,AExit.block]
 repeat refine AWp.seq ?_
 refine AWp.region ?_
 refine AOps.stepCall hT (an:={}) (fun A hA=>by cbv) (Nat.zero_le _) rfl (.inr rfl) rfl rfl rfl (Nat.le_of_ble_eq_true rfl) rfl rfl (cst) ?_
 refine AOps.done hT (an:={}) (fun A hA=>by cbv) (Nat.zero_le _) ?_
 try dsimp only [AExit.then,AExit.block]
 repeat refine AWp.seq ?_
 refine AWp.reg1 {} hT (fun A hA=>by
   have f0:=ar_len hA S n hn
   repeat (cbv;simp only [f0])
   cbv) (Nat.zero_le _) ?_
 try dsimp only [AExit.then,AExit.block]
 refine AWp.block (AWp.loopInv (ι:=Int×List D) (fun p=>0<=p.1/\p.1<=n/\p.2=((all.take p.1.toNat).flatMap G1).map dLs/\p.2.length<=p.1*1001000) (fun p=>(n-p.1).toNat) [0,3,4,15,16,17]
  (fun p=>{ env:=[(0,.d X),(3,.own 1 p.2),(4,.d (.list 3 S)),(15,.d (.list 3 S)),(16,AI n),(17,AI p.1)],heap:=[],n:=76 }) (0,[]) (by cbv) ⟨Int.le_refl _,by dsimp only;omega,by simp,by simp⟩ ?_)
 rintro ⟨z,l⟩ ⟨h0,h1,hl,hlen1⟩
 dsimp only at *
 by_cases hz:z<n
 ·obtain ⟨⟨t,a,b⟩,hs⟩ : ∃ s,all[z.toNat]?=some s:=⟨_,zp1 (by omega)⟩
  have hSz:S[z.toNat]?=some (.agg [I t,I a,I b]):=by rw [<-hS,List.getElem?_map,hs];rfl
  obtain ⟨z1,hz1⟩ : ∃ z1,z+1=z1:=⟨_,rfl⟩
  have hz1n:z1.toNat=z.toNat+1:=by omega
  have hts:=(hth' _ (List.mem_of_getElem? hs)).2
  obtain ⟨G2,hG2⟩ : ∃ G:Sta->List (List Sta),circ2R x all (t,a,b)=G:=⟨_,rfl⟩
  have hg2 : ∀ q,G2 q=circ2R x all (t,a,b) q:=fun s=>by rw [<-hG2]
  have hnext1:=flatMap_take_succ all G1 z.toNat _ hs
  rw [<-hz1n,hg1,hG2] at hnext1
  repeat refine AWp.seq ?_
  refine AWp.reg1 {} hT (fun A hA=>by
    have f0:=ar_lt hA hz
    repeat (cbv;simp only [f0])
    cbv) (Nat.zero_le _) ?_
  try dsimp only [AExit.then,AExit.block]
  repeat refine AWp.seq ?_
  refine AWp.cond (b:=true) rfl (AWp.skip ?_)
  try dsimp only [AExit.then,AExit.block]
  repeat refine AWp.seq ?_
  refine AWp.block ?_
  repeat refine AWp.seq ?_
  refine AWp.reg1 {} hT (fun A hA=>by
    have f0:=ar_get hA hSz
    have f1:=ar_le hA h0
    repeat (cbv;simp only [f0,f1])
    cbv) (Nat.zero_le _) ?_
  try dsimp only [AExit.then,AExit.block]
  repeat refine AWp.seq ?_
  refine AWp.reg1 {} hT (fun A hA=>by
    have f0:=ar_len hA S n hn
    repeat (cbv;simp only [f0])
    cbv) (Nat.zero_le _) ?_
  try dsimp only [AExit.then,AExit.block]
  refine AWp.block (AWp.loopInv (ι:=Int×List D) (fun p=>0<=p.1/\p.1<=n/\p.2=l++((all.take p.1.toNat).flatMap G2).map dLs/\p.2.length<=z*1001000+p.1*1001) (fun p=>(n-p.1).toNat) [0,3,4,6,15,16,17,21,22,23]
   (fun p=>{ env:=[(0,.d X),(3,.own 1 p.2),(4,.d (.list 3 S)),(6,.lbox [AI t,AI a,AI b]),(15,.d (.list 3 S)),(16,AI n),(17,AI z),(21,.d (.list 3 S)),(22,AI n),(23,AI p.1)],heap:=[],n:=76 }) (0,l) (by cbv) ⟨Int.le_refl _,by dsimp only;omega,by simp,by dsimp only;omega⟩ ?_)
  rintro ⟨y,l1⟩ ⟨g0,g1,gl,glen⟩
  dsimp only at *
  by_cases hy:y<n
  ·obtain ⟨⟨u,c,d⟩,hq⟩ : ∃ s,all[y.toNat]?=some s:=⟨_,zp1 (by omega)⟩
   have hSy:S[y.toNat]?=some (.agg [I u,I c,I d]):=by rw [<-hS,List.getElem?_map,hq];rfl
   obtain ⟨y1,hy1⟩ : ∃ z1,y+1=z1:=⟨_,rfl⟩
   have hy1n:y1.toNat=y.toNat+1:=by omega
   have htq:=(hth' _ (List.mem_of_getElem? hq)).1
   have c1:=ccf _ _ _ _ hts htq
   try dsimp only at c1
   have hnext2:=flatMap_take_succ all G2 y.toNat _ hq
   rw [<-hy1n,hg2] at hnext2
   unfold circ2R at hnext2
   try dsimp only at hnext2
   obtain ⟨cf,hcf⟩ : ∃ r,conflict x t b u c=r:=⟨_,rfl⟩
   rw [hcf] at c1 hnext2
   have c2:=cic [(t,a,b),(u,c,d)] (by simp)
   obtain ⟨r2,hr2⟩ : ∃ r,isCircR x [(t,a,b),(u,c,d)]=r:=⟨_,rfl⟩
   rw [hr2] at c2 hnext2
   simp only [List.map_cons,List.map_nil,dSta] at c2
   obtain ⟨G3,hG3⟩ : ∃ G:Sta->List (List Sta),circ3R x (t,a,b) (u,c,d)=G:=⟨_,rfl⟩
   have hg3 : ∀ r,G3 r=circ3R x (t,a,b) (u,c,d) r:=fun s=>by rw [<-hG3]
   rw [hG3] at hnext2
   repeat refine AWp.seq ?_
   refine AWp.reg1 {} hT (fun A hA=>by
     have f0:=ar_lt hA hy
     repeat (cbv;simp only [f0])
     cbv) (Nat.zero_le _) ?_
   try dsimp only [AExit.then,AExit.block]
   repeat refine AWp.seq ?_
   refine AWp.cond (b:=true) rfl (AWp.skip ?_)
   try dsimp only [AExit.then,AExit.block]
   repeat refine AWp.seq ?_
   refine AWp.block ?_
   repeat refine AWp.seq ?_
   refine AWp.reg1 {} hT (fun A hA=>by
     have f0:=ar_get hA hSy
     have f1:=ar_le hA g0
     repeat (cbv;simp only [f0,f1])
     cbv) (Nat.zero_le _) ?_
   try dsimp only [AExit.then,AExit.block]
   refine AWp.cut (fun σ'=>(decide (t=u) || !cf)=false/\σ'.keep [0,3,4,6,8,15,16,17,21,22,23]={ env:=[(0,.d X),(3,.own 1 l1),(4,.d (.list 3 S)),(6,.lbox [AI t,AI a,AI b]),(8,.lbox [AI u,AI c,AI d]),(15,.d (.list 3 S)),(16,AI n),(17,AI z),(21,.d (.list 3 S)),(22,AI n),(23,AI y)],heap:=[],n:=76 }) ?_ ?_
   ·by_cases e:t=u
    ·rw [if_pos (by simp [e])] at hnext2
     repeat refine AWp.seq ?_
     refine AWp.reg1 {} hT (fun A hA=>by
       have f0:=ar_eq hA e
       repeat (cbv;simp only [f0])
       cbv) (Nat.zero_le _) ?_
     try dsimp only [AExit.then,AExit.block]
     repeat refine AWp.seq ?_
     refine AWp.cond (b:=true) rfl ?_
     rw [if_pos rfl]
     refine AWp.exit ?_
     dsimp only [AExit.then,AExit.block]
     rw [if_pos rfl]
     repeat refine AWp.seq ?_
     refine AWp.reg1 {} hT (fun A hA=>by
       have f0:=ar_add hA y 1 y1 hy1 (by omega) (by omega)
       repeat (cbv;simp only [f0])
       cbv) (Nat.zero_le _) ?_
     try dsimp only [AExit.then,AExit.block]
     exact ⟨(y1,l1),⟨by dsimp only;omega,by dsimp only;omega,by dsimp only;rw [hnext2,gl];simp,by dsimp only;omega⟩,by dsimp only;omega,by cbv⟩
    ·repeat refine AWp.seq ?_
     refine AWp.region ?_
     refine AOps.stepCall hT (an:={}) (fun A hA=>by
       have f0:=ar_ne hA e
       repeat (cbv;simp only [f0])
       cbv) (Nat.zero_le _) rfl (.inr rfl) rfl rfl rfl (Nat.le_of_ble_eq_true rfl) rfl rfl (c1) ?_
     refine AOps.done hT (an:={}) (fun A hA=>by cbv) (Nat.zero_le _) ?_
     try dsimp only [AExit.then,AExit.block]
     cases cf with
     | true =>
       repeat refine AWp.seq ?_
       refine AWp.cond (b:=false) rfl (AWp.skip ?_)
       try dsimp only [AExit.then,AExit.block]
       exact ⟨by simp [e],by cbv⟩
     | false =>
       rw [if_pos (by simp)] at hnext2
       repeat refine AWp.seq ?_
       refine AWp.cond (b:=true) rfl ?_
       rw [if_pos rfl]
       refine AWp.exit ?_
       dsimp only [AExit.then,AExit.block]
       rw [if_pos rfl]
       repeat refine AWp.seq ?_
       refine AWp.reg1 {} hT (fun A hA=>by
         have f0:=ar_add hA y 1 y1 hy1 (by omega) (by omega)
         repeat (cbv;simp only [f0])
         cbv) (Nat.zero_le _) ?_
       try dsimp only [AExit.then,AExit.block]
       exact ⟨(y1,l1),⟨by dsimp only;omega,by dsimp only;omega,by dsimp only;rw [hnext2,gl];simp,by dsimp only;omega⟩,by dsimp only;omega,by cbv⟩
   ·rintro σ1 ⟨hcd,hσ1⟩
    refine AWp.keep [0,3,4,6,8,15,16,17,21,22,23] ?_
    rw [hσ1]
    rw [hcd,if_neg (by simp)] at hnext2
    refine AWp.cut (fun σ' => ∃ l2:List D,l2=l1++(if r2 then [[(t,a,b),(u,c,d)]] else []).map dLs/\l2.length<=l1.length+1/\σ'.keep [0,3,4,6,8,15,16,17,21,22,23]={ env:=[(0,.d X),(3,.own 1 l2),(4,.d (.list 3 S)),(6,.lbox [AI t,AI a,AI b]),(8,.lbox [AI u,AI c,AI d]),(15,.d (.list 3 S)),(16,AI n),(17,AI z),(21,.d (.list 3 S)),(22,AI n),(23,AI y)],heap:=[],n:=76 }) ?_ ?_
    ·repeat refine AWp.seq ?_
     refine AWp.reg1 {} hT (fun A hA=>by cbv) (Nat.zero_le _) ?_
     try dsimp only [AExit.then,AExit.block]
     repeat refine AWp.seq ?_
     refine AWp.region ?_
     refine AOps.stepCall hT (an:={}) (fun A hA=>by cbv) (Nat.zero_le _) rfl (.inr rfl) rfl rfl rfl (Nat.le_of_ble_eq_true rfl) rfl rfl (c2) ?_
     refine AOps.done hT (an:={}) (fun A hA=>by cbv) (Nat.zero_le _) ?_
     try dsimp only [AExit.then,AExit.block]
     cases r2 with
     | true =>
       obtain ⟨l2,hl2⟩ : ∃ l2,l1++[.list 3 [.agg [I t,I a,I b],.agg [I u,I c,I d]]]=l2:=⟨_,rfl⟩
       repeat refine AWp.seq ?_
       refine AWp.cond (b:=true) rfl ?_
       rw [if_pos rfl]
       repeat refine AWp.seq ?_
       refine AWp.reg1 {tk:=[3,51,54]} hT (fun A hA=>by
         have f0:=ar_app hA _ _ _ hl2
         have f1:=ar_fits hA l1 [.list 3 [.agg [I t,I a,I b],.agg [I u,I c,I d]]] (by simp;omega)
         repeat (cbv;simp only [f0,f1])
         cbv) (Nat.zero_le _) ?_
       try dsimp only [AExit.then,AExit.block]
       exact ⟨l2,by rw [<-hl2];rfl,by rw [<-hl2];simp,by cbv⟩
     | false =>
       repeat refine AWp.seq ?_
       refine AWp.cond (b:=false) rfl (AWp.skip ?_)
       try dsimp only [AExit.then,AExit.block]
       exact ⟨l1,by simp,by omega,by cbv⟩
    ·rintro σ2 ⟨l2,hl2,hl2n,hσ2⟩
     refine AWp.keep [0,3,4,6,8,15,16,17,21,22,23] ?_
     rw [hσ2]
     repeat refine AWp.seq ?_
     refine AWp.reg1 {} hT (fun A hA=>by
       have f0:=ar_len hA S n hn
       repeat (cbv;simp only [f0])
       cbv) (Nat.zero_le _) ?_
     try dsimp only [AExit.then,AExit.block]
     refine AWp.block (AWp.loopInv (ι:=Int×List D) (fun p=>0<=p.1/\p.1<=n/\p.2=l2++((all.take p.1.toNat).flatMap G3).map dLs/\p.2.length<=z*1001000+y*1001+1+p.1) (fun p=>(n-p.1).toNat) [0,3,4,6,8,15,16,17,21,22,23,55,56,57]
      (fun p=>{ env:=[(0,.d X),(3,.own 1 p.2),(4,.d (.list 3 S)),(6,.lbox [AI t,AI a,AI b]),(8,.lbox [AI u,AI c,AI d]),(15,.d (.list 3 S)),(16,AI n),(17,AI z),(21,.d (.list 3 S)),(22,AI n),(23,AI y),(55,.d (.list 3 S)),(56,AI n),(57,AI p.1)],heap:=[],n:=76 }) (0,l2) (by cbv) ⟨Int.le_refl _,by dsimp only;omega,by simp,by dsimp only;omega⟩ ?_)
     rintro ⟨v,l3⟩ ⟨e0,e1,el,elen⟩
     dsimp only at *
     by_cases hv:v<n
     ·obtain ⟨⟨w,f,g⟩,hr⟩ : ∃ s,all[v.toNat]?=some s:=⟨_,zp1 (by omega)⟩
      have hSv:S[v.toNat]?=some (.agg [I w,I f,I g]):=by rw [<-hS,List.getElem?_map,hr];rfl
      obtain ⟨v1,hv1⟩ : ∃ z1,v+1=z1:=⟨_,rfl⟩
      have hv1n:v1.toNat=v.toNat+1:=by omega
      have hnext3:=flatMap_take_succ all G3 v.toNat _ hr
      rw [<-hv1n,hg3] at hnext3
      unfold circ3R at hnext3
      have c3:=cic [(t,a,b),(u,c,d),(w,f,g)] (by simp)
      obtain ⟨r3,hr3⟩ : ∃ r,isCircR x [(t,a,b),(u,c,d),(w,f,g)]=r:=⟨_,rfl⟩
      rw [hr3] at c3 hnext3
      simp only [List.map_cons,List.map_nil,dSta] at c3
      repeat refine AWp.seq ?_
      refine AWp.reg1 {} hT (fun A hA=>by
        have f0:=ar_lt hA hv
        repeat (cbv;simp only [f0])
        cbv) (Nat.zero_le _) ?_
      try dsimp only [AExit.then,AExit.block]
      repeat refine AWp.seq ?_
      refine AWp.cond (b:=true) rfl (AWp.skip ?_)
      try dsimp only [AExit.then,AExit.block]
      repeat refine AWp.seq ?_
      refine AWp.block ?_
      repeat refine AWp.seq ?_
      refine AWp.reg1 {} hT (fun A hA=>by
        have f0:=ar_get hA hSv
        have f1:=ar_le hA e0
        repeat (cbv;simp only [f0,f1])
        cbv) (Nat.zero_le _) ?_
      try dsimp only [AExit.then,AExit.block]
      repeat refine AWp.seq ?_
      refine AWp.reg1 {} hT (fun A hA=>by cbv) (Nat.zero_le _) ?_
      try dsimp only [AExit.then,AExit.block]
      repeat refine AWp.seq ?_
      refine AWp.region ?_
      refine AOps.stepCall hT (an:={}) (fun A hA=>by cbv) (Nat.zero_le _) rfl (.inr rfl) rfl rfl rfl (Nat.le_of_ble_eq_true rfl) rfl rfl (c3) ?_
      refine AOps.done hT (an:={}) (fun A hA=>by cbv) (Nat.zero_le _) ?_
      try dsimp only [AExit.then,AExit.block]
      cases r3 with
      | true =>
        obtain ⟨l4,hl4⟩ : ∃ l2,l3++[.list 3 [.agg [I t,I a,I b],.agg [I u,I c,I d],.agg [I w,I f,I g]]]=l2:=⟨_,rfl⟩
        repeat refine AWp.seq ?_
        refine AWp.cond (b:=true) rfl ?_
        rw [if_pos rfl]
        repeat refine AWp.seq ?_
        refine AWp.reg1 {tk:=[3,68,71]} hT (fun A hA=>by
          have f0:=ar_app hA _ _ _ hl4
          have f1:=ar_fits hA l3 [.list 3 [.agg [I t,I a,I b],.agg [I u,I c,I d],.agg [I w,I f,I g]]] (by simp;omega)
          repeat (cbv;simp only [f0,f1])
          cbv) (Nat.zero_le _) ?_
        try dsimp only [AExit.then,AExit.block]
        repeat refine AWp.seq ?_
        refine AWp.reg1 {} hT (fun A hA=>by
          have f0:=ar_add hA v 1 v1 hv1 (by omega) (by omega)
          repeat (cbv;simp only [f0])
          cbv) (Nat.zero_le _) ?_
        try dsimp only [AExit.then,AExit.block]
        exact ⟨(v1,l4),⟨by dsimp only;omega,by dsimp only;omega,by dsimp only;rw [hnext3,<-hl4,el];simp [dLs,dSta],by dsimp only;rw [<-hl4];simp;omega⟩,by dsimp only;omega,by cbv⟩
      | false =>
        repeat refine AWp.seq ?_
        refine AWp.cond (b:=false) rfl (AWp.skip ?_)
        try dsimp only [AExit.then,AExit.block]
        repeat refine AWp.seq ?_
        refine AWp.reg1 {} hT (fun A hA=>by
          have f0:=ar_add hA v 1 v1 hv1 (by omega) (by omega)
          repeat (cbv;simp only [f0])
          cbv) (Nat.zero_le _) ?_
        try dsimp only [AExit.then,AExit.block]
        exact ⟨(v1,l3),⟨by dsimp only;omega,by dsimp only;omega,by dsimp only;rw [hnext3,el];simp,by dsimp only;omega⟩,by dsimp only;omega,by cbv⟩
     ·have hvn:v=n:=by omega
      subst hvn
      rw [List.take_of_length_le (by omega)] at el
      repeat refine AWp.seq ?_
      refine AWp.reg1 {} hT (fun A hA=>by
        have f0:=ar_nlt hA hv
        repeat (cbv;simp only [f0])
        cbv) (Nat.zero_le _) ?_
      try dsimp only [AExit.then,AExit.block]
      repeat refine AWp.seq ?_
      refine AWp.cond (b:=false) rfl (AWp.exit ?_)
      try dsimp only [AExit.then,AExit.block]
      rw [if_pos rfl]
      repeat refine AWp.seq ?_
      refine AWp.reg1 {} hT (fun A hA=>by
        have f0:=ar_add hA y 1 y1 hy1 (by omega) (by omega)
        repeat (cbv;simp only [f0])
        cbv) (Nat.zero_le _) ?_
      try dsimp only [AExit.then,AExit.block]
      exact ⟨(y1,l3),⟨by dsimp only;omega,by dsimp only;omega,by dsimp only;rw [hnext2,el,hl2,gl];simp,by dsimp only;omega⟩,by dsimp only;omega,by cbv⟩
  ·have hyn:y=n:=by omega
   subst hyn
   rw [List.take_of_length_le (by omega)] at gl
   repeat refine AWp.seq ?_
   refine AWp.reg1 {} hT (fun A hA=>by
     have f0:=ar_nlt hA hy
     repeat (cbv;simp only [f0])
     cbv) (Nat.zero_le _) ?_
   try dsimp only [AExit.then,AExit.block]
   repeat refine AWp.seq ?_
   refine AWp.cond (b:=false) rfl (AWp.exit ?_)
   try dsimp only [AExit.then,AExit.block]
   rw [if_pos rfl]
   repeat refine AWp.seq ?_
   refine AWp.reg1 {} hT (fun A hA=>by
     have f0:=ar_add hA z 1 z1 hz1 (by omega) (by omega)
     repeat (cbv;simp only [f0])
     cbv) (Nat.zero_le _) ?_
   try dsimp only [AExit.then,AExit.block]
   exact ⟨(z1,l1),⟨by dsimp only;omega,by dsimp only;omega,by dsimp only;rw [hnext1,gl,hl];simp,by dsimp only;omega⟩,by dsimp only;omega,by cbv⟩
 ·have hzn:z=n:=by omega
  subst hzn
  rw [List.take_of_length_le (by omega)] at hl
  subst hl
  obtain ⟨R,hR⟩ : ∃ R,(all.flatMap G1).map dLs=R:=⟨_,rfl⟩
  rw [hR]
  repeat refine AWp.seq ?_
  refine AWp.reg1 {} hT (fun A hA=>by
    have f0:=ar_nlt hA hz
    repeat (cbv;simp only [f0])
    cbv) (Nat.zero_le _) ?_
  try dsimp only [AExit.then,AExit.block]
  repeat refine AWp.seq ?_
  refine AWp.cond (b:=false) rfl (AWp.exit ?_)
  try dsimp only [AExit.then,AExit.block]
  rw [if_pos rfl]
  repeat refine AWp.seq ?_
  refine AWp.reg1 {tk:=[3,75]} hT (fun A hA=>by cbv) (Nat.zero_le _) ?_
  try dsimp only [AExit.then,AExit.block]
  repeat refine AWp.seq ?_
  refine AWp.ret ⟨?_,rfl,rfl,Nat.zero_le _,_,rfl⟩
  rfl
end Go.Am

namespace Go.Am
open Go Go.Proofs
def inL (s u:Sta):Bool:=decide (u=s)&&decide (s.2.1<s.2.2)
def neededR (x:List (List Acc)):List Sta:=(stationsR x).filter fun s=>(circlesR x).any fun l=>l.any (inL s)
theorem any_take_succ {α:Type} (l:List α) (f:α->Bool) (n:Nat) (a:α) (h:l[n]?=some a):(l.take (n+1)).any f=((l.take n).any f||f a):=by
 rw [List.take_add_one,h,List.any_append];simp
theorem neededR_ok (x:List (List Acc)) (hx:Small x) (hlen:(stationsR x).length<=1000) (hth : ∀ s∈stationsR x,isThere x s=true) (hcl:(circlesR x).length<=1000000000000) (hc3 : ∀ l∈circlesR x,l.length<=3):ACall P 83 [.d (dX x)] [] (.own 3 ((neededR x).map dSta)) []:=by
 have cst:=stationsR_ok x hx
 have ccs:=circlesR_ok x hx hlen hth
 unfold neededR
 obtain ⟨all,hall⟩ : ∃ l,stationsR x=l:=⟨_,rfl⟩
 obtain ⟨cs,hcs⟩ : ∃ l,circlesR x=l:=⟨_,rfl⟩
 rw [hall] at cst hlen ⊢
 rw [hcs] at ccs hcl hc3 ⊢
 obtain ⟨S,hS⟩ : ∃ S,all.map dSta=S:=⟨_,rfl⟩
 obtain ⟨n,hn⟩ : ∃ n:Int,(S.length:Int)=n:=⟨_,rfl⟩
 have hln:(all.length:Int)=n:=by rw [<-hn,<-hS];simp
 obtain ⟨C,hC⟩ : ∃ S,cs.map dLs=S:=⟨_,rfl⟩
 obtain ⟨m,hm⟩ : ∃ n:Int,(C.length:Int)=n:=⟨_,rfl⟩
 have hlm:(cs.length:Int)=m:=by rw [<-hm,<-hC];simp
 obtain ⟨X,hX⟩ : ∃ X,dX x=X:=⟨_,rfl⟩
 rw [hX,hS] at cst
 rw [hX,hC] at ccs
 rw [hX]
 obtain ⟨p,hp⟩ : ∃ p:Sta->Bool,(fun s=>cs.any fun l=>l.any (inL s))=p:=⟨_,rfl⟩
 have hpp : ∀ s,p s=cs.any fun l=>l.any (inL s):=fun s=>by rw [<-hp]
 rw [hp]
 refine ACall.enter hT (fn:=Try.f83) Try.func83 rfl (by decide) (by simp [Try.f83]) rfl rfl rfl rfl (Nat.le_refl _) ?_
 repeat refine AWp.seq ?_
 refine AWp.reg1 {tk:=[2]} hT (fun A hA=>by cbv) (Nat.zero_le _) ?_
 try dsimp only [AExit.then,AExit.block]
 repeat refine AWp.seq ?_
 refine AWp.reg1 {tk:=[3]} hT (fun A hA=>by cbv) (Nat.zero_le _) ?_
 try dsimp only [AExit.then,AExit.block]
 repeat refine AWp.seq ?_
 refine AWp.region ?_
 refine AOps.stepCall hT (an:={}) (fun A hA=>by cbv) (Nat.zero_le _) rfl (.inr rfl) rfl rfl rfl (Nat.le_of_ble_eq_true rfl) rfl rfl (ccs) ?_
 refine AOps.done hT (an:={}) (fun A hA=>by cbv) (Nat.zero_le _) ?_
 try dsimp only [AExit.then,AExit.block]
 repeat refine AWp.seq ?_
 refine AWp.region ?_
 refine AOps.stepCall hT (an:={}) (fun A hA=>by cbv) (Nat.zero_le _) rfl (.inr rfl) rfl rfl rfl (Nat.le_of_ble_eq_true rfl) rfl rfl (cst) ?_
 refine AOps.done hT (an:={}) (fun A hA=>by
   have f0:=ar_len hA S n hn
   repeat (cbv;simp only [f0])
   cbv) (Nat.zero_le _) ?_
 try dsimp only [AExit.then,AExit.block]
 refine AWp.block (AWp.loopInv (ι:=Int×List D) (fun p'=>0<=p'.1/\p'.1<=n/\p'.2=((all.take p'.1.toNat).filter p).map dSta/\p'.2.length<=p'.1) (fun p=>(n-p.1).toNat) [3,4,15,16,17]
  (fun p=>{ env:=[(3,.own 3 p.2),(4,.d (.list 1 C)),(15,.own 3 S),(16,AI n),(17,AI p.1)],heap:=[],n:=55 }) (0,[]) (by cbv) ⟨Int.le_refl _,by dsimp only;omega,by simp,by simp⟩ ?_)
 rintro ⟨z,l⟩ ⟨h0,h1,hl,hlen1⟩
 dsimp only at *
 by_cases hz:z<n
 ·obtain ⟨⟨t,a,b⟩,hs⟩ : ∃ s,all[z.toNat]?=some s:=⟨_,zp1 (by omega)⟩
  have hSz:S[z.toNat]?=some (.agg [I t,I a,I b]):=by rw [<-hS,List.getElem?_map,hs];rfl
  obtain ⟨z1,hz1⟩ : ∃ z1,z+1=z1:=⟨_,rfl⟩
  have hz1n:z1.toNat=z.toNat+1:=by omega
  have hpz:=hpp (t,a,b)
  obtain ⟨lt,hlt⟩ : ∃ r,decide (a<b)=r:=⟨_,rfl⟩
  have hl' : ∀ A:Ar,A=Ar.std->A.zlt a b=lt:=fun A hA=>by subst hA;exact hlt
  obtain ⟨q,hq⟩ : ∃ p:Sta->Bool,inL (t,a,b)=p:=⟨_,rfl⟩
  have hqq : ∀ u,q u=(decide (u=(t,a,b))&&lt):=fun s=>by rw [<-hq,<-hlt];rfl
  rw [hq] at hpz
  obtain ⟨Q,hQ⟩ : ∃ p:List Sta->Bool,(fun l:List Sta=>l.any q)=p:=⟨_,rfl⟩
  have hQQ : ∀ l,Q l=l.any q:=fun s=>by rw [<-hQ]
  rw [hQ] at hpz
  have hstep:all.take z1.toNat=all.take z.toNat++[(t,a,b)]:=by rw [hz1n,List.take_add_one,hs];rfl
  repeat refine AWp.seq ?_
  refine AWp.reg1 {} hT (fun A hA=>by
    have f0:=ar_lt hA hz
    repeat (cbv;simp only [f0])
    cbv) (Nat.zero_le _) ?_
  try dsimp only [AExit.then,AExit.block]
  repeat refine AWp.seq ?_
  refine AWp.cond (b:=true) rfl (AWp.skip ?_)
  try dsimp only [AExit.then,AExit.block]
  repeat refine AWp.seq ?_
  refine AWp.block ?_
  repeat refine AWp.seq ?_
  refine AWp.reg1 {} hT (fun A hA=>by
    have f0:=ar_get hA hSz
    have f1:=ar_le hA h0
    repeat (cbv;simp only [f0,f1])
    cbv) (Nat.zero_le _) ?_
  try dsimp only [AExit.then,AExit.block]
  repeat refine AWp.seq ?_
  refine AWp.reg1 {} hT (fun A hA=>by cbv) (Nat.zero_le _) ?_
  try dsimp only [AExit.then,AExit.block]
  repeat refine AWp.seq ?_
  refine AWp.reg1 {} hT (fun A hA=>by
    have f0:=ar_len hA C m hm
    repeat (cbv;simp only [f0])
    cbv) (Nat.zero_le _) ?_
  try dsimp only [AExit.then,AExit.block]
  refine AWp.block (AWp.loopInv (ι:=Int×Bool) (fun p=>0<=p.1/\p.1<=m/\p.2=(cs.take p.1.toNat).any Q) (fun p=>(m-p.1).toNat) [3,4,6,7,15,16,17,21,22,23]
   (fun p=>{ env:=[(3,.own 3 l),(4,.d (.list 1 C)),(6,.lbox [AI t,AI a,AI b]),(7,AB p.2),(15,.own 3 S),(16,AI n),(17,AI z),(21,.d (.list 1 C)),(22,AI m),(23,AI p.1)],heap:=[],n:=55 }) (0,false) (by cbv) ⟨Int.le_refl _,by dsimp only;omega,by simp⟩ ?_)
  rintro ⟨y,is⟩ ⟨g0,g1,g2⟩
  dsimp only at *
  by_cases hy:y<m
  ·obtain ⟨c,hc⟩ : ∃ s,cs[y.toNat]?=some s:=⟨_,zp1 (by omega)⟩
   have hc3':=hc3 c (List.mem_of_getElem? hc)
   obtain ⟨L,hL⟩ : ∃ S,c.map dSta=S:=⟨_,rfl⟩
   obtain ⟨k,hk⟩ : ∃ n:Int,(L.length:Int)=n:=⟨_,rfl⟩
   have hlk:(c.length:Int)=k:=by rw [<-hk,<-hL];simp
   have hCy:C[y.toNat]?=some (.list 3 L):=by rw [<-hC,List.getElem?_map,hc,<-hL];rfl
   obtain ⟨y1,hy1⟩ : ∃ z1,y+1=z1:=⟨_,rfl⟩
   have hany:=any_take_succ cs Q y.toNat c hc
   rw [<-g2,hQQ,show y.toNat+1=y1.toNat by omega] at hany
   repeat refine AWp.seq ?_
   refine AWp.reg1 {} hT (fun A hA=>by
     have f0:=ar_lt hA hy
     repeat (cbv;simp only [f0])
     cbv) (Nat.zero_le _) ?_
   try dsimp only [AExit.then,AExit.block]
   repeat refine AWp.seq ?_
   refine AWp.cond (b:=true) rfl (AWp.skip ?_)
   try dsimp only [AExit.then,AExit.block]
   repeat refine AWp.seq ?_
   refine AWp.block ?_
   repeat refine AWp.seq ?_
   refine AWp.reg1 {} hT (fun A hA=>by
     have f0:=ar_get hA hCy
     have f1:=ar_le hA g0
     repeat (cbv;simp only [f0,f1])
     cbv) (Nat.zero_le _) ?_
   try dsimp only [AExit.then,AExit.block]
   repeat refine AWp.seq ?_
   refine AWp.reg1 {} hT (fun A hA=>by
     have f0:=ar_len hA L k hk
     repeat (cbv;simp only [f0])
     cbv) (Nat.zero_le _) ?_
   try dsimp only [AExit.then,AExit.block]
   refine AWp.block (AWp.loopInv (ι:=Int×Bool) (fun p=>0<=p.1/\p.1<=k/\p.2=(is||(c.take p.1.toNat).any q)) (fun p=>(k-p.1).toNat) [3,4,6,7,15,16,17,21,22,23,27,28,29]
    (fun p=>{ env:=[(3,.own 3 l),(4,.d (.list 1 C)),(6,.lbox [AI t,AI a,AI b]),(7,AB p.2),(15,.own 3 S),(16,AI n),(17,AI z),(21,.d (.list 1 C)),(22,AI m),(23,AI y),(27,.d (.list 3 L)),(28,AI k),(29,AI p.1)],heap:=[],n:=55 }) (0,is) (by cbv) ⟨Int.le_refl _,by dsimp only;omega,by simp⟩ ?_)
   rintro ⟨v,is2⟩ ⟨e0,e1,e2⟩
   dsimp only at *
   by_cases hv:v<k
   ·obtain ⟨⟨u,f,g⟩,hu⟩ : ∃ s,c[v.toNat]?=some s:=⟨_,zp1 (by omega)⟩
    have hLv:L[v.toNat]?=some (.agg [I u,I f,I g]):=by rw [<-hL,List.getElem?_map,hu];rfl
    obtain ⟨v1,hv1⟩ : ∃ z1,v+1=z1:=⟨_,rfl⟩
    have hany2:=any_take_succ c q v.toNat _ hu
    rw [show v.toNat+1=v1.toNat by omega,hqq] at hany2
    obtain ⟨r,hr⟩ : ∃ r,decide ((u,f,g)=(t,a,b))=r:=⟨_,rfl⟩
    have hdeq : ∀ A:Ar,A=Ar.std->A.deq [I u,I f,I g] [I t,I a,I b]=r:=fun A hA=>ar_deq hA (by rw [<-hr];simp)
    rw [hr] at hany2
    have hnew : ∀ is3,is3=(is2||(r&&lt))->is3=(is||(c.take v1.toNat).any q):=fun is3 h=>by rw [hany2,h,e2,Bool.or_assoc]
    repeat refine AWp.seq ?_
    refine AWp.reg1 {} hT (fun A hA=>by
      have f0:=ar_lt hA hv
      repeat (cbv;simp only [f0])
      cbv) (Nat.zero_le _) ?_
    try dsimp only [AExit.then,AExit.block]
    repeat refine AWp.seq ?_
    refine AWp.cond (b:=true) rfl (AWp.skip ?_)
    try dsimp only [AExit.then,AExit.block]
    repeat refine AWp.seq ?_
    refine AWp.block ?_
    repeat refine AWp.seq ?_
    refine AWp.reg1 {} hT (fun A hA=>by
      have f0:=ar_get hA hLv
      have f1:=ar_le hA e0
      repeat (cbv;simp only [f0,f1])
      cbv) (Nat.zero_le _) ?_
    try dsimp only [AExit.then,AExit.block]
    cases is2 with
    | true =>
      repeat refine AWp.seq ?_
      refine AWp.reg1 {} hT (fun A hA=>by cbv) (Nat.zero_le _) ?_
      try dsimp only [AExit.then,AExit.block]
      repeat refine AWp.seq ?_
      refine AWp.reg1 {} hT (fun A hA=>by
        have f0:=ar_add hA v 1 v1 hv1 (by omega) (by omega)
        repeat (cbv;simp only [f0])
        cbv) (Nat.zero_le _) ?_
      try dsimp only [AExit.then,AExit.block]
      exact ⟨(v1,true),⟨by dsimp only;omega,by dsimp only;omega,hnew _ rfl⟩,by dsimp only;omega,by cbv⟩
    | false =>
      cases r with
      | true =>
        repeat refine AWp.seq ?_
        refine AWp.reg1 {} hT (fun A hA=>by
          have f0:=hdeq A hA
          have f1:=hl' A hA
          repeat (cbv;simp only [f0,f1])
          cbv) (Nat.zero_le _) ?_
        try dsimp only [AExit.then,AExit.block]
        repeat refine AWp.seq ?_
        refine AWp.reg1 {} hT (fun A hA=>by
          have f0:=ar_add hA v 1 v1 hv1 (by omega) (by omega)
          repeat (cbv;simp only [f0])
          cbv) (Nat.zero_le _) ?_
        try dsimp only [AExit.then,AExit.block]
        exact ⟨(v1,lt),⟨by dsimp only;omega,by dsimp only;omega,hnew _ (by simp)⟩,by dsimp only;omega,by cbv⟩
      | false =>
        repeat refine AWp.seq ?_
        refine AWp.reg1 {} hT (fun A hA=>by
          have f0:=hdeq A hA
          repeat (cbv;simp only [f0])
          cbv) (Nat.zero_le _) ?_
        try dsimp only [AExit.then,AExit.block]
        repeat refine AWp.seq ?_
        refine AWp.reg1 {} hT (fun A hA=>by
          have f0:=ar_add hA v 1 v1 hv1 (by omega) (by omega)
          repeat (cbv;simp only [f0])
          cbv) (Nat.zero_le _) ?_
        try dsimp only [AExit.then,AExit.block]
        exact ⟨(v1,false),⟨by dsimp only;omega,by dsimp only;omega,hnew _ rfl⟩,by dsimp only;omega,by cbv⟩
   ·rw [List.take_of_length_le (by omega)] at e2
    repeat refine AWp.seq ?_
    refine AWp.reg1 {} hT (fun A hA=>by
      have f0:=ar_nlt hA hv
      repeat (cbv;simp only [f0])
      cbv) (Nat.zero_le _) ?_
    try dsimp only [AExit.then,AExit.block]
    repeat refine AWp.seq ?_
    refine AWp.cond (b:=false) rfl (AWp.exit ?_)
    try dsimp only [AExit.then,AExit.block]
    rw [if_pos rfl]
    repeat refine AWp.seq ?_
    refine AWp.reg1 {} hT (fun A hA=>by
      have f0:=ar_add hA y 1 y1 hy1 (by omega) (by omega)
      repeat (cbv;simp only [f0])
      cbv) (Nat.zero_le _) ?_
    try dsimp only [AExit.then,AExit.block]
    exact ⟨(y1,is2),⟨by dsimp only;omega,by dsimp only;omega,by dsimp only;rw [hany,e2]⟩,by dsimp only;omega,by cbv⟩
  ·rw [List.take_of_length_le (by omega),<-hpz] at g2
   subst g2
   obtain ⟨r,hr⟩ : ∃ r,p (t,a,b)=r:=⟨_,rfl⟩
   rw [hr]
   repeat refine AWp.seq ?_
   refine AWp.reg1 {} hT (fun A hA=>by
     have f0:=ar_nlt hA hy
     repeat (cbv;simp only [f0])
     cbv) (Nat.zero_le _) ?_
   try dsimp only [AExit.then,AExit.block]
   repeat refine AWp.seq ?_
   refine AWp.cond (b:=false) rfl (AWp.exit ?_)
   try dsimp only [AExit.then,AExit.block]
   rw [if_pos rfl]
   repeat refine AWp.seq ?_
   refine AWp.reg1 {} hT (fun A hA=>by cbv) (Nat.zero_le _) ?_
   try dsimp only [AExit.then,AExit.block]
   cases r with
   | true =>
     obtain ⟨L1,hL1⟩ : ∃ l3,l++[.agg [I t,I a,I b]]=l3:=⟨_,rfl⟩
     repeat refine AWp.seq ?_
     refine AWp.cond (b:=true) rfl ?_
     rw [if_pos rfl]
     repeat refine AWp.seq ?_
     refine AWp.reg1 {tk:=[3,49,52]} hT (fun A hA=>by
       have f0:=ar_app hA _ _ _ hL1
       have f1:=ar_fits hA l [.agg [I t,I a,I b]] (by simp;omega)
       repeat (cbv;simp only [f0,f1])
       cbv) (Nat.zero_le _) ?_
     try dsimp only [AExit.then,AExit.block]
     repeat refine AWp.seq ?_
     refine AWp.reg1 {} hT (fun A hA=>by
       have f0:=ar_add hA z 1 z1 hz1 (by omega) (by omega)
       repeat (cbv;simp only [f0])
       cbv) (Nat.zero_le _) ?_
     try dsimp only [AExit.then,AExit.block]
     refine ⟨(z1,L1),⟨by dsimp only;omega,by dsimp only;omega,?_,by rw [<-hL1];simp;omega⟩,by dsimp only;omega,by cbv⟩
     dsimp only
     rw [hstep,List.filter_append,List.map_append,<-hl,<-hL1]
     simp [hr,dSta]
   | false =>
     repeat refine AWp.seq ?_
     refine AWp.cond (b:=false) rfl (AWp.skip ?_)
     try dsimp only [AExit.then,AExit.block]
     repeat refine AWp.seq ?_
     refine AWp.reg1 {} hT (fun A hA=>by
       have f0:=ar_add hA z 1 z1 hz1 (by omega) (by omega)
       repeat (cbv;simp only [f0])
       cbv) (Nat.zero_le _) ?_
     try dsimp only [AExit.then,AExit.block]
     refine ⟨(z1,l),⟨by dsimp only;omega,by dsimp only;omega,?_,by dsimp only;omega⟩,by dsimp only;omega,by cbv⟩
     dsimp only
     rw [hstep,List.filter_append,List.map_append,<-hl]
     simp [hr]
 ·rw [List.take_of_length_le (by omega)] at hl
  rw [<-hl]
  repeat refine AWp.seq ?_
  refine AWp.reg1 {} hT (fun A hA=>by
    have f0:=ar_nlt hA hz
    repeat (cbv;simp only [f0])
    cbv) (Nat.zero_le _) ?_
  try dsimp only [AExit.then,AExit.block]
  repeat refine AWp.seq ?_
  refine AWp.cond (b:=false) rfl (AWp.exit ?_)
  try dsimp only [AExit.then,AExit.block]
  rw [if_pos rfl]
  repeat refine AWp.seq ?_
  refine AWp.reg1 {tk:=[3,54]} hT (fun A hA=>by cbv) (Nat.zero_le _) ?_
  try dsimp only [AExit.then,AExit.block]
  repeat refine AWp.seq ?_
  refine AWp.ret ⟨?_,rfl,rfl,Nat.zero_le _,_,rfl⟩
  rfl
end Go.Am

namespace Go.Am
open Go Go.Proofs
end Go.Am

namespace Go.Am
open Go Go.Proofs
theorem flatMap_congr' {α β:Type} {l:List α} {f g:α->List β} (h : ∀ a∈l,f a=g a):l.flatMap f=l.flatMap g:=by
 induction l with
 | nil=>rfl
 | cons a r ih=>rw [List.flatMap_cons,List.flatMap_cons,h a (by simp),ih (fun b hb=>h b (by simp [hb]))]
theorem stationsR_eq (x:List (List Acc)):stationsR x=stations x:=by
 unfold stationsR stations stRT staT
 congr 1
 funext t
 unfold stRA staA
 congr 1
 funext a
 unfold stRB staB
 congr 1
 apply List.filter_congr
 intro b _
 cases hp:isPair x ((t:Int),(a:Int),(b:Int)) with
 | false =>
   by_cases e:a=b
   ·subst e;simp
   ·simp [e]
 | true =>
   have:(a:Int)<b:=((isPair_iff x _).1 hp).1
   have h1:decide (a<=b)=true:=by simp;omega
   simp [h1]
theorem getD_lt {α:Type} (l:List α) (i:Nat) (d:α) (h:i<l.length):l.getD i d=l[i]:=by
 rw [List.getD_eq_getElem?_getD,zp1 h];rfl
theorem isCircR_eq (x:List (List Acc)) (l:List Sta):isCircR x l=isCircF x l:=by
 rw [Bool.eq_iff_iff]
 unfold isCircR isCircF isCircle
 simp only [zp4,decide_eq_true_eq,List.all_eq_true,List.any_eq_true,List.mem_range,List.contains_eq_mem,Bool.not_eq_true',decide_eq_false_iff_not]
 constructor
 ·rintro ⟨⟨⟨⟨h1,h2⟩,h3⟩,h4⟩,s,h5,h6⟩
  have hin : ∀ s∈l,inS x s:=by
   intro s hs
   obtain ⟨i,hi,rfl⟩:=List.getElem_of_mem hs
   have:=h3 i hi
   unfold okAt at this
   rw [getD_lt _ _ _ hi] at this
   simp only [zp4,Bool.or_eq_true,decide_eq_true_eq] at this
   obtain ⟨⟨g1,g2⟩,_⟩:=this
   obtain ⟨k1,k2,k3,k4⟩:=(there_iff x _ _).1 g1
   rcases g2 with g2 | g2
   ·exact ⟨k1,k2,k3,by omega,by rw [<-g2];exact k4,.inl g2⟩
   ·obtain ⟨j1,_,j2,_⟩:=(isPair_iff x _).1 g2
    obtain ⟨_,_,_,j3⟩:=(there_iff x _ _).1 j2
    exact ⟨k1,k2,k3,by omega,j3,.inr g2⟩
  refine ⟨⟨⟨h1,h2⟩,fun s hs=>mem_stations_iff.2 (hin s hs)⟩,fun i hi => ?_,s,h5,?_⟩
  ·have g1:=h3 i hi
   have g2:=h4 i hi
   unfold okAt at g1
   unfold cfAt at g2
   unfold circAt
   dsimp only
   rw [g2,Bool.true_and]
   simp only [zp4,List.all_eq_true,Bool.not_eq_true',decide_eq_false_iff_not] at g1
   rw [Bool.not_eq_true',List.any_eq_false]
   intro u hu
   have:=g1.2 u hu
   simpa using this
  ·obtain ⟨_,_,_,_,_,g⟩:=hin s h5
   exact g.resolve_left h6
 ·rintro ⟨⟨⟨h1,h2⟩,h3⟩,h4,s,h5,h6⟩
  refine ⟨⟨⟨⟨h1,h2⟩,fun i hi => ?_⟩,fun i hi => ?_⟩,s,h5,?_⟩
  ·have g1:=h4 i hi
   unfold circAt at g1
   dsimp only at g1
   rw [zp4,Bool.not_eq_true',List.any_eq_false] at g1
   obtain ⟨k1,k2,k3,k4,k5,k6⟩:=mem_stations_iff.1 (h3 _ (zp6 hi))
   unfold okAt
   rw [getD_lt _ _ _ hi] at *
   simp only [zp4,Bool.or_eq_true,decide_eq_true_eq,List.all_eq_true,Bool.not_eq_true',decide_eq_false_iff_not]
   refine ⟨⟨(there_iff x _ _).2 ⟨k1,k2,k3,?_⟩,k6⟩,fun r hr => ?_⟩
   ·unfold rl;omega
   ·have:=g1.2 r hr;simpa using this
  ·have g1:=h4 i hi
   unfold circAt at g1
   dsimp only at g1
   rw [zp4] at g1
   exact g1.1
  ·have:=((isPair_iff x _).1 h6).1
   omega
theorem isCircF_mem {x:List (List Acc)} {l:List Sta} (h1:2<=l.length) (h2:l.length<=3) (h : ∀ s∈l,s∈stations x):isCircF x l=isCircle x l:=by
 unfold isCircF
 have:(l.all fun s=>(stations x).contains s)=true:=by
  rw [List.all_eq_true];intro s hs;rw [List.contains_eq_mem,decide_eq_true_eq];exact h s hs
 rw [this];simp [h1,h2]
theorem circlesR_eq (x:List (List Acc)):circlesR x=circles x:=by
 unfold circlesR circles
 rw [stationsR_eq]
 have hmem : ∀ s∈stations x,s∈stations x:=fun _ h=>h
 obtain ⟨all,hall⟩ : ∃ l,stations x=l:=⟨_,rfl⟩
 rw [hall] at hmem ⊢
 have h3:circFrom x all 3 []=all.flatMap fun s=>circFrom x all 2 [s]:=by
  conv=>lhs;unfold circFrom
  simp [circHere,nextOk]
 have h2 : ∀ s,circFrom x all 2 [s]=all.flatMap fun q=>if conflict x s.1 s.2.2 q.1 q.2.1 then circFrom x all 1 [s,q] else []:=fun s=>by
  conv=>lhs;unfold circFrom
  simp [circHere,nextOk,lastOf]
 have h1 : ∀ s q,circFrom x all 1 [s,q]=(if isCircle x [s,q] then [[s,q]] else [])++all.flatMap fun r=>if conflict x q.1 q.2.2 r.1 r.2.1 then (if isCircle x [s,q,r] then [[s,q,r]] else []) else []:=fun s q=>by
  conv=>lhs;unfold circFrom
  simp [circHere,nextOk,lastOf,circFrom]
 rw [h3]
 refine flatMap_congr' fun s hs => ?_
 rw [h2]
 refine flatMap_congr' fun q hq => ?_
 unfold circ2R
 rw [isCircR_eq,isCircF_mem (by simp) (by simp) (by rw [hall];intro u hu;simp at hu;rcases hu with rfl | rfl <;> assumption)]
 have e3:all.flatMap (circ3R x s q)=all.flatMap fun r=>if isCircle x [s,q,r] then [[s,q,r]] else []:=by
  refine flatMap_congr' fun r hr => ?_
  unfold circ3R
  rw [isCircR_eq,isCircF_mem (by simp) (by simp) (by rw [hall];intro u hu;simp at hu;rcases hu with rfl | rfl | rfl <;> assumption)]
 rw [e3]
 cases hc:conflict x s.1 s.2.2 q.1 q.2.1 with
 | false=>simp
 | true =>
   simp only [Bool.not_true,Bool.or_false,decide_eq_true_eq,if_true]
   have e4:(all.flatMap fun r=>if conflict x q.1 q.2.2 r.1 r.2.1 then (if isCircle x [s,q,r] then [[s,q,r]] else []) else [])=all.flatMap fun r=>if isCircle x [s,q,r] then [[s,q,r]] else []:=by
    refine flatMap_congr' fun r hr => ?_
    rw [circ3]
    cases conflict x q.1 q.2.2 r.1 r.2.1 <;> simp
   rw [h1,e4]
   by_cases e:s.1=q.1
   ·rw [if_pos e,circ2]
    simp only [circ3,e,decide_true,Bool.not_true,Bool.and_false,Bool.false_and,Bool.false_eq_true,if_false]
    simp
   ·rw [if_neg e]
theorem neededR_eq (x:List (List Acc)):neededR x=neededL x:=by
 unfold neededR neededL pairsL
 rw [stationsR_eq,circlesR_eq,List.filter_filter]
 apply List.filter_congr
 intro s hs
 obtain ⟨_,_,_,_,_,h6⟩:=mem_stations_iff.1 hs
 rw [Bool.eq_iff_iff]
 unfold inCircle inL
 simp only [zp4,decide_eq_true_eq,List.any_eq_true,List.contains_eq_mem,List.mem_flatten]
 constructor
 ·rintro ⟨l,hl,u,hu,rfl,hlt⟩
  exact ⟨⟨l,hl,hu⟩,h6.resolve_left (by omega)⟩
 ·rintro ⟨⟨l,hl,hu⟩,hp⟩
  exact ⟨l,hl,s,hu,rfl,((isPair_iff x _).1 hp).1⟩
end Go.Am
