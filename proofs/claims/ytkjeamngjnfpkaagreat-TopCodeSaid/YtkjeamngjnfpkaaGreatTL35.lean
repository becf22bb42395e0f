import Derived.Test.YtkjeamngjnfpkaaGreatZL43
set_option maxRecDepth 100000
set_option maxHeartbeats 2000000
set_option linter.unusedVariables false
set_option linter.unusedSimpArgs false
set_option linter.unusedSectionVars false
namespace Go.Am
open Go
noncomputable def gL {X:Type} (A:Ar) (x1:List D) (x2:List D) (x3:Int) (x4:Int) (x5:Int) (x6:Int) (x7:Int) (x8:Int) (x9:Int) (x10:Int) (x11:Int) (x12:Int) (x13:Int) (x14:Int) (x15:Int) (x16:Int) (x17:Int) (x18:Int) (x19:Int) (x20:Int) (x21:List D) (x22:List D) (x23:Int) (x24:List D) (x25:List D) (r28:List D) (slf:List D->List D->Int->Int->Int->Int->Int->Int->Int->Int->Int->Int->Int->Int->Int->Int->Int->Int->Int->Int->List D->List D->Int->List D->List D->X->(Option (Bool×X))):(Int×X)->Option ((Int×X)⊕((X)⊕(X×List D×List D×Int×Int×Int×Int×Int×Int×Int×Int×Int×Int×Int×Int×Int×Int×Int×Int×Int×Int×List D×List D))):=fun (v102,v103) =>
 bif (A.zlt v102 (A.len r28)) then
  (gt A (cI .i64) r28 v102).bind fun a105 =>
  (Z83 A x1 x2 x3 x4 x5 x6 x7 x8 x9 x10 x11 x12 x13 x14 x15 x16 x17 x18 x19 x20 x21 x22).bind fun (r110,r111,r112,r113,r114,r115,r116,r117,r118,r119,r120,r121,r122,r123,r124,r125,r126,r127,r128,r129,r130,r131) =>
  (Z84 A a105 x24 r110 r111 r112 r113 r114 r115 r116 r117 r118 r119 r120 r121 r122 r123 r124 r125 r126 r127 r128 r129 r130 r131).bind fun (r133,r134,r135,r136,r137,r138,r139,r140,r141,r142,r143,r144,r145,r146,r147,r148,r149,r150,r151,r152,r153,r154) =>
  (sl A x25 0 (A.len x25)).bind fun l155 =>
  (ck (A.zeq (A.len x25) (A.len x25))).bind fun _ =>
  (ap A l155 [(.int .i64 a105)]).bind fun l163 =>
  (slf r133 r134 r135 r136 r137 r138 r139 r140 r141 r142 r143 r144 r145 r146 r147 r148 r149 r150 r151 r152 r153 r154 x23 x24 l163 v103).bind fun (r168,r169) =>
  bif r168 then
   some (.inl ((A.wrp .i64 (A.zadd v102 1)),r169))
  else
   some (.inr (.inr (r169,r133,r134,r135,r136,r137,r138,r139,r140,r141,r142,r143,r144,r145,r146,r147,r148,r149,r150,r151,r152,r153,r154)))
 else
  some (.inr (.inl v103))
noncomputable def gB {X:Type} (A:Ar) (vis:List D->List D->Int->Int->Int->Int->Int->Int->Int->Int->Int->Int->Int->Int->Int->Int->Int->Int->Int->Int->List D->List D->List D->X->Option X) (slf:List D->List D->Int->Int->Int->Int->Int->Int->Int->Int->Int->Int->Int->Int->Int->Int->Int->Int->Int->Int->List D->List D->Int->List D->List D->X->(Option (Bool×X))) (x1:List D) (x2:List D) (x3:Int) (x4:Int) (x5:Int) (x6:Int) (x7:Int) (x8:Int) (x9:Int) (x10:Int) (x11:Int) (x12:Int) (x13:Int) (x14:Int) (x15:Int) (x16:Int) (x17:Int) (x18:Int) (x19:Int) (x20:Int) (x21:List D) (x22:List D) (x23:Int) (x24:List D) (x25:List D) (x26:X):Option (Bool×X) :=
 (b1X A x1 x2 x3 x4 x5 x6 x7 x8 x9 x10 x11 x12 x13 x14 x15 x16 x17 x18 x19 x20 x21 x22).bind fun r28 =>
 ((
  bif (A.zeq (A.len r28) 0) then
   some true
  else
   some (A.zeq x20 x23):Option (Bool))).bind fun v30 =>
 bif v30 then
  (vis x1 x2 x3 x4 x5 x6 x7 x8 x9 x10 x11 x12 x13 x14 x15 x16 x17 x18 x19 x20 x21 x22 x25 x26).bind fun r34 =>
  some (true,r34)
 else
  (iter (gL A x1 x2 x3 x4 x5 x6 x7 x8 x9 x10 x11 x12 x13 x14 x15 x16 x17 x18 x19 x20 x21 x22 x23 x24 x25 r28 slf) (0,x26)).bind (Sum.elim (fun v171 =>
   some (true,v171)) (fun (v172,v173,v174,v175,v176,v177,v178,v179,v180,v181,v182,v183,v184,v185,v186,v187,v188,v189,v190,v191,v192,v193,v194) =>
   some (false,v172)))
abbrev b2E (Z:Type):=List D->List D->Int->Int->Int->Int->Int->Int->Int->Int->Int->Int->Int->Int->Int->Int->Int->Int->Int->Int->List D->List D->Z
abbrev c4L {Z:Type} (F:b2E Z) (c:Code) (u:Tab) (m:Mc):Z :=
 F (a0o c) (a0r u) m.a.cl m.a.ln m.a.r0 m.a.r1 m.a.r2 m.a.r3 m.a.at_ m.b.cl m.b.ln m.b.r0 m.b.r1 m.b.r2 m.b.r3 m.b.at_ m.c0 m.c1 m.c2 m.st (a0b m.h) (a0d m.ms)
def a3c (c:Code) (u:Tab) (mks:List Int):Nat->Mc->List Mc
 | 0,m=>[m]
 | k+1,m=>bif (a0y u m).isEmpty then [m] else (a0y u m).flatMap fun t=>a3c c u mks k (a0j c u mks t.toNat m)
theorem a7k {c:Code} {u:Tab} {mks:List Int} (h2:u.length<=2) : ∀ (k:Nat) (m:Mc),(a3c c u mks k m).length<=2 ^ k
 | 0,m=>Nat.le_refl _
 | k+1,m=>by
   unfold a3c;cases (a0y u m).isEmpty with
   | true=>rw [cond_true];exact Nat.one_le_two_pow
   | false =>
     rw [cond_false,List.length_flatMap];have hl:=a3t h2 m;generalize a0y u m=l at hl;have key : ∀ l:List Int,(l.map fun t=>(a3c c u mks k (a0j c u mks t.toNat m)).length).sum<=l.length*2 ^ k:=by
      intro l
      induction l with
      | nil=>simp
      | cons t r ih =>
        have:=a7k (c:=c) (mks:=mks) h2 k (a0j c u mks t.toNat m);rw [List.map_cons,List.sum_cons,List.length_cons,Nat.add_mul,Nat.one_mul];omega
     have h3:=key l;have h4:=Nat.mul_le_mul_right (2 ^ k) hl;rw [Nat.pow_succ];omega
structure Vis {X Y:Type} (c:Code) (u:Tab) (vis:b2E (List D->X->Option X)) (re:Y->X) (f:Mc->Y->Y) (J:Nat->Y->Prop):Prop where
 go : ∀ (m:Mc) (sch:List Int) (y:Y),J 1 y->m.h.length<=100->c4L vis c u m (a0d sch) (re y)=some (re (f m y))
 step : ∀ (m:Mc) (k:Nat) (y:Y),J (k+1) y->J k (f m y)
 mono : ∀ (j k:Nat) (y:Y),j<=k->J k y->J j y
theorem Vis.fold {X Y:Type} {c:Code} {u:Tab} {vis:b2E (List D->X->Option X)} {re:Y->X} {f:Mc->Y->Y} {J:Nat->Y->Prop} (V:Vis c u vis re f J) : ∀ (l:List Mc) (r:Nat) (y:Y),J (l.length+r) y->J r (l.foldl (fun y e=>f e y) y)
 | [],r,y,h=>by simpa using h
 | e::l,r,y,h=>V.fold l r _ (V.step e _ y (by rw [List.length_cons] at h;exact V.mono _ _ y (by omega) h))
section
variable {c:Code} {u:Tab} {mks:List Int} (hmk:b0d c mks) (hv:a1e c=true) (hu:a3E c u=true) {X Y:Type} {vis:b2E (List D->X->Option X)} {re:Y->X} {f:Mc->Y->Y} {J:Nat->Y->Prop} (V:Vis c u vis re f J) {steps:Int} (hs0:steps<=12)
def b4V (c:Code) (u:Tab) (mks:List Int) (re:Y->X) (f:Mc->Y->Y) (J:Nat->Y->Prop) (steps:Int) (k:Nat) (slf:b2E (Int->List D->List D->X->Option (Bool×X))):Prop :=
 ∀ (m:Mc) (sch:List Int) (y:Y),MInv c u m->m.st+k=steps->(sch.length:Int)<=m.st->J (2 ^ k) y ->
   c4L slf c u m steps (a0d mks) (a0d sch) (re y)=some (true,re ((a3c c u mks k m).foldl (fun y e=>f e y) y))
include hmk hv hu hs0 V
theorem c1V (k:Nat) (slf:b2E (Int->List D->List D->X->Option (Bool×X))) (hself : ∀ k',k=k'+1->b4V c u mks re f J steps k' slf):b4V c u mks re f J steps k (gB Ar.std vis slf):=by
 intro m sch y hi hst hsch hJ;have h2:=b8C mks hmk hv hu;have hhs:=hi.st;have hms:=hi.ms;unfold c4L gB;refine bt (a3H (a0o c) m h2) ?_;refine bt (v:=(a0y u m).isEmpty||decide (m.st=steps)) ?_ ?_
 ·cases hl:a0y u m with
  | nil=>rfl
  | cons t r=>exact cnF (by simp <;> omega) rfl
 cases hb:((a0y u m).isEmpty||decide (m.st=steps)) with
 | true =>
   have he:a3c c u mks k m=[m]:=by
    cases k with
    | zero=>rfl
    | succ k =>
      unfold a3c;have:(a0y u m).isEmpty=true:=by
       rw [Bool.or_eq_true,decide_eq_true_eq] at hb;rcases hb with h | h
       ·exact h
       omega
      rw [this,cond_true]
   rw [he];exact cnT rfl (bt (V.go m sch y (V.mono _ _ y Nat.one_le_two_pow hJ) (by omega)) rfl)
 | false =>
   rw [Bool.or_eq_false_iff,decide_eq_false_iff_not] at hb;obtain ⟨k',rfl⟩ : ∃ k',k=k'+1:=⟨k-1,by have:=hb.2;omega⟩;have hself:=hself k' rfl;have hll:=a3t h2 m;refine cnF rfl ?_;have e:=a4c (step:=gL Ar.std (a0o c) (a0r u) m.a.cl m.a.ln m.a.r0 m.a.r1 m.a.r2 m.a.r3 m.a.at_ m.b.cl m.b.ln m.b.r0 m.b.r1 m.b.r2 m.b.r3 m.b.at_ m.c0 m.c1 m.c2 m.st (a0b m.h) (a0d m.ms) steps (a0d mks) (a0d sch) (a0d (a0y u m)) slf)
    (a0y u m) (fun (y:Y) (i:Nat)=>((i:Int),re y)) (fun y t => .inl ((a3c c u mks k' (a0j c u mks t.toNat m)).foldl (fun y e=>f e y) y)) (fun y => .inl (re y)) (fun i y=>J (((a0y u m).length-i)*2 ^ k') y)
    (fun i t y hn hI=>by
     have hlt:=(zp2.1 hn).1;have ht:=a2N (List.mem_of_getElem? hn);have hsplit:((a0y u m).length-i)*2 ^ k'=2 ^ k'+((a0y u m).length-(i+1))*2 ^ k':=by
      rw [show (a0y u m).length-i=((a0y u m).length-(i+1))+1 by omega,Nat.add_mul,Nat.one_mul,Nat.add_comm]
     rw [hsplit] at hI;refine .inl ⟨_,rfl,?_,?_⟩
     ·exact V.fold _ _ _ (V.mono _ _ y (Nat.add_le_add_right (a7k h2 k' _) _) hI)
     unfold gL;have hn1:=a2s mks hmk hv hu hi ht;have hsl:sl Ar.std (a0d sch) 0 (Ar.std.len (a0d sch))=some (a0d sch):=by
      rw [a0p,a4L (Nat.le_refl _),List.take_length]
     refine cnT (by simp;omega) (bt (a0t hn) (bt (v:=(a0o c,a0r u,m.a.cl,m.a.ln,m.a.r0,m.a.r1,m.a.r2,m.a.r3,m.a.at_,m.b.cl,m.b.ln,m.b.r0,m.b.r1,m.b.r2,m.b.r3,m.b.at_,m.c0,m.c1,m.c2,m.st,a0b m.h,a0d m.ms)) ?_ (bt (a9H mks hmk hv hu hi (by omega) ht) (bt hsl (bt (v:=()) (by simp [ck]) (bt (a1y (c:=cI .i64) rfl (by omega)) (bt (hself (a0j c u mks t.toNat m) (sch++[t]) y hn1 (by rw [a3F];omega) (by rw [a3F,List.length_append];simp;omega) (V.mono _ _ y (by omega) hI)) ?_)))))))
     ·unfold Z83;exact bt (a7f _ (by simp;omega)) (bt (v:=()) (by rw [a3q];rfl) (bt (a7Q (c:=[]) ⟨by decide,fun r h=>by cases h⟩ (u:=[]) ⟨by decide,fun r h=>by cases h⟩ (sch:=[]) (by decide) _ (by simp;omega)) (bt (v:=()) (by rw [a5g];rfl) rfl)))
     refine cnT rfl ?_;simp only [a0g,a0i,a0G hlt (by omega)])
    (fun y _=>by unfold gL;exact cnF (by simp) rfl) y (by simpa using V.mono _ _ y (by rw [Nat.pow_succ,Nat.mul_comm (2 ^ k')];exact Nat.mul_le_mul_right _ hll) hJ)
   refine bt e ?_;rw [a6Q];simp only [Sum.elim_inl];have he:a3c c u mks (k'+1) m=(a0y u m).flatMap fun t=>a3c c u mks k' (a0j c u mks t.toNat m):=by
    rw [show a3c c u mks (k'+1) m=_ from rfl];show (bif (a0y u m).isEmpty then [m] else _)=_
    rw [hb.1,cond_false]
   rw [he,List.foldl_flatMap]
end
def jH (k:Nat) (y:List (List Call)):Prop:=y.length+k<=100000
def a2E (y:List (List Call)):List D:=enc (cL 6) (y.map a0b)
theorem c5q (c:Code) (u:Tab):Vis c u (Z41 Ar.std) a2E (fun m y=>y++[m.h]) jH where
 go m sch y hJ _:=by
  show Z41 Ar.std _ _ _ _ _ _ _ _ _ _ _ _ _ _ _ _ _ _ _ _ _ _ _ _=_;unfold Z41 a2E;unfold jH at hJ;rw [List.map_append];exact bt (a1y (c:=cL 6) rfl (by rw [List.length_map];omega)) rfl
 step m k y h:=by unfold jH at *;rw [List.length_append];simp;omega
 mono j k y h h':=by unfold jH at *;omega
theorem c4M (l:List Mc) (y:List (List Call)):l.foldl (fun y (m:Mc)=>y++[m.h]) y=y++l.map Mc.h:=by
 induction l generalizing y with
 | nil=>simp
 | cons a r ih=>rw [List.foldl_cons,ih,List.map_cons,List.append_assoc];rfl
section
variable {c:Code} {u:Tab} {mks:List Int} (hmk:b0d c mks) (hv:a1e c=true) (hu:a3E c u=true) {steps:Int} (hs0:steps<=12)
include hmk hv hu hs0
theorem b1O : ∀ (k j:Nat),k<j->b4V c u mks a2E (fun m y=>y++[m.h]) jH steps k (b3r Ar.std j)
 | k,0,h=>by omega
 | k,j+1,h=>c1V hmk hv hu (c5q c u) hs0 k (b3r Ar.std j) fun k' hk=>b1O k' j (by omega)
end
section
variable {c:Code} (hc:a1q c) {u:Tab} (hut:a0C u) (hv:a1e c=true) (hu:a3E c u=true) {k:Nat} (hk:k<=12)
include hc hut hv hu hk
theorem b9e:c2L Ar.std (a0o c) (a0r u) 0 0 0 0 0 0 0 0 0 0 0 0 0 0 0 0 0 0 (k:Int) [] [] [] [] []=some (true,a2E ((a3c c u [] k mc0).map Mc.h)):=by
 have hp:2 ^ k<=2 ^ 12:=Nat.pow_le_pow_right (by omega) hk;have e:=c1V (mks:=[]) (.inl rfl) hv hu (c5q c u) (steps:=(k:Int)) (by omega) k (c3d Ar.std) (fun k' hk'=>b1O (.inl rfl) hv hu (by omega) k' fuel (by unfold fuel;omega)) mc0 [] [] (a7v c u) (by simp [mc0]) (by simp [mc0]) (by unfold jH;simp;omega);rw [c4M,List.nil_append] at e;exact e
theorem c1W:Z34 Ar.std (k:Int)=some true:=by
 unfold Z34;refine bt (v:=true) ?_ rfl;rw [a3I];simp [btw];omega
end
def orI:List Int->Int
 | []=>0
 | a::r=>bif decide (a=0) then orI r else a
theorem c1X (l:List Int) (hl:l.length<Lg):Z89 Ar.std (a0d l)=some (orI l):=by
 have e:=a4p (step:=b3s Ar.std (a0d l)) l (fun (_:Unit) (i:Nat)=>(i:Int)) (fun _ a=>bif decide (a=0) then .inl () else .inr (.inr a)) (fun _ => .inl ())
  (fun i a s ha hi=>by
   unfold b3s;refine cnT (by simp;omega) (bt (a0t ha) ?_);cases hd:decide (a=0) with
   | true=>exact cnT hd (by simp only [a0g,a0i,a0G hi hl];rfl)
   | false=>exact cnF hd rfl)
  (fun s=>by unfold b3s;exact cnF (by simp) rfl) ()
 unfold Z89;refine bt e ?_;clear e hl
 induction l with
 | nil=>rfl
 | cons a r ih =>
   unfold a5T orI;cases hd:decide (a=0) with
   | true=>exact ih
   | false=>rfl
def GC (x:Call):Prop:=(0<=x.th/\x.th<=999)/\x.ob=0/\(0<=x.op/\x.op<=999)/\(0<=x.sa/\x.sa<=999)/\(0<=x.fr/\x.fr<=999)/\(0<=x.to/\x.to<=999)
def GH (h:List Call):Prop:=h.length<=100 /\ ∀ x∈h,GC x
def b2F (x y:Call):Int:=orI [x.th-y.th,x.op-y.op,x.sa-y.sa,x.fr-y.fr,x.to-y.to]
def a5R (x:Call):Int:=(((x.th*1000+x.op)*1000+x.sa)*1000+x.fr)*1000+x.to
theorem c1Y {x y:Call} (hx:GC x) (hy:GC y):Z45 Ar.std x.1 x.2.1 x.2.2.1 x.2.2.2.1 x.2.2.2.2.1 x.2.2.2.2.2 y.1 y.2.1 y.2.2.1 y.2.2.2.1 y.2.2.2.2.1 y.2.2.2.2.2=some (b2F x y):=by
 obtain ⟨a1,a2,a3,a4,a5,a6⟩:=hx;obtain ⟨b1,b2,b3,b4,b5,b6⟩:=hy;simp only [Call.th,Call.op,Call.sa,Call.fr,Call.to] at a1 a3 a4 a5 a6 b1 b3 b4 b5 b6;unfold Z45 b2F;simp only [a0g,a0D];rw [a8P (x.1-y.1) (by omega) (by omega),a8P (x.2.2.1-y.2.2.1) (by omega) (by omega),a8P (x.2.2.2.1-y.2.2.2.1) (by omega) (by omega),a8P (x.2.2.2.2.1-y.2.2.2.2.1) (by omega) (by omega),a8P (x.2.2.2.2.2-y.2.2.2.2.2) (by omega) (by omega)];exact bt (c1X [x.th-y.th,x.op-y.op,x.sa-y.sa,x.fr-y.fr,x.to-y.to] (by show (5:Nat)<9223372036854775808;decide)) rfl
theorem b4W {x y:Call} (hx:GC x) (hy:GC y):(b2F x y<0↔a5R x<a5R y)/\(b2F x y=0↔a5R x=a5R y):=by
 obtain ⟨a1,a2,a3,a4,a5,a6⟩:=hx;obtain ⟨b1,b2,b3,b4,b5,b6⟩:=hy;unfold b2F a5R;simp only [orI];by_cases h1:x.th-y.th=0
 ·rw [decide_eq_true h1,cond_true];by_cases h2:x.op-y.op=0
  ·rw [decide_eq_true h2,cond_true];by_cases h3:x.sa-y.sa=0
   ·rw [decide_eq_true h3,cond_true];by_cases h4:x.fr-y.fr=0
    ·rw [decide_eq_true h4,cond_true];by_cases h5:x.to-y.to=0
     ·rw [decide_eq_true h5,cond_true];constructor <;> omega
     rw [decide_eq_false h5,cond_false];constructor <;> omega
    rw [decide_eq_false h4,cond_false];constructor <;> omega
   rw [decide_eq_false h3,cond_false];constructor <;> omega
  rw [decide_eq_false h2,cond_false];constructor <;> omega
 rw [decide_eq_false h1,cond_false];constructor <;> omega
theorem b6O {x y:Call} (hx:GC x) (hy:GC y) (h:a5R x=a5R y):x=y:=by
 obtain ⟨x1,x2,x3,x4,x5,x6⟩:=x;obtain ⟨y1,y2,y3,y4,y5,y6⟩:=y;obtain ⟨a1,a2,a3,a4,a5,a6⟩:=hx;obtain ⟨b1,b2,b3,b4,b5,b6⟩:=hy;unfold a5R at h;simp only [Call.th,Call.ob,Call.op,Call.sa,Call.fr,Call.to] at *;have e1:x1=y1:=by omega
 have e2:x3=y3:=by omega
 have e3:x4=y4:=by omega
 have e4:x5=y5:=by omega
 have e5:x6=y6:=by omega
 subst e1 e2 e3 e4 e5;rw [a2,b2]
def b7G:List Call->List Call->Int
 | [],[]=>0
 | [],_::_ => -1
 | _::_,[]=>1
 | x::a,y::b=>bif decide (b2F x y=0) then b7G a b else b2F x y
theorem c1Z {a b:List Call} (ha:GH a) (hb:GH b):Z44 Ar.std (a0b a) (a0b b)=some (b7G a b):=by
 have e:=a4c (step:=b0k Ar.std (a0b a) (a0b b)) a (fun (_:List Call) (i:Nat)=>(i:Int))
  (fun s x=>match s with | [] => .inr (.inr 1) | y::r=>bif decide (b2F x y=0) then .inl r else .inr (.inr (b2F x y))) (fun _ => .inl ()) (fun i s=>s=b.drop i)
  (fun i x s hx hs=>by
   have hi:=(zp2.1 hx).1;have hla:=ha.1;subst hs;rcases Nat.lt_or_ge i b.length with hl | hl
   ·have hy:b[i]?=some b[i]:=zp1 hl;rw [List.drop_eq_getElem_cons hl];have hc:=c1Y (ha.2 x (List.mem_of_getElem? hx)) (hb.2 _ (List.mem_of_getElem? hy));cases hd:decide (b2F x b[i]=0) with
    | true =>
      refine .inl ⟨b.drop (i+1),by simp only [hd,cond_true],rfl,?_⟩;unfold b0k;refine cnT (by simp;omega) (bt (a0t hx) (cnF (by simp;omega) (bt (a0t hy) (bt hc (cnT hd ?_)))));simp only [a0g,a0i,a0G hi (by omega)]
    | false =>
      refine .inr ⟨.inr (b2F x b[i]),by simp only [hd,cond_false],?_⟩;unfold b0k;exact cnT (by simp;omega) (bt (a0t hx) (cnF (by simp;omega) (bt (a0t hy) (bt hc (cnF hd rfl)))))
   rw [List.drop_eq_nil_of_le hl];refine .inr ⟨_,rfl,?_⟩;unfold b0k;exact cnT (by simp;omega) (bt (a0t hx) (cnT (by simp;omega) rfl)))
  (fun s _=>by unfold b0k;exact cnF (by simp) rfl) b rfl
 unfold Z44;refine bt e ?_;clear e ha hb;simp only [a0p,a0x]
 induction a generalizing b with
 | nil =>
   cases b with
   | nil=>rfl
   | cons y b =>
     show (bif _ then _ else _)=_
     have h:decide (((([]:List Call).length:Nat):Int)<(((y::b).length:Nat):Int))=true:=by simp <;> omega
     rw [h];rfl
 | cons x a ih =>
   cases b with
   | nil=>rfl
   | cons y b =>
     unfold a5T b7G;cases hd:decide (b2F x y=0) with
     | true =>
       simp only [hd,cond_true,Sum.elim_inl];have:=ih (b:=b);rw [show decide ((((x::a).length:Nat):Int)<(((y::b).length:Nat):Int))=decide (((a.length:Nat):Int)<((b.length:Nat):Int)) by simp [List.length_cons]];exact this
     | false=>simp only [hd,cond_false,Sum.elim_inr,id]
theorem b7H {a b:List Call} (ha:GH a) (hb:GH b):Z43 Ar.std (a0b a) (a0b b)=some (b7G a b):=bt (c1Z ha hb) rfl
def cmpL:List Int->List Int->Int
 | [],[]=>0
 | [],_::_ => -1
 | _::_,[]=>1
 | x::a,y::b=>if x<y then -1 else if y<x then 1 else cmpL a b
theorem c2a {a b:List Call} (ha : ∀ x∈a,GC x) (hb : ∀ x∈b,GC x):b7G a b<0↔cmpL (a.map a5R) (b.map a5R)<0:=by
 induction a generalizing b with
 | nil=>cases b <;> simp [b7G,cmpL]
 | cons x a ih =>
   cases b with
   | nil=>simp [b7G,cmpL]
   | cons y b =>
     obtain ⟨h1,h2⟩:=b4W (ha x (by simp)) (hb y (by simp));have:=ih (b:=b) (fun x hx=>ha x (by simp [hx])) (fun x hx=>hb x (by simp [hx]));unfold b7G;simp only [List.map_cons,cmpL];by_cases h0:b2F x y=0
     ·rw [decide_eq_true h0,cond_true,if_neg (by omega),if_neg (by omega)];exact this
     rw [decide_eq_false h0,cond_false];by_cases h3:a5R x<a5R y
     ·rw [if_pos h3];simp;omega
     rw [if_neg h3,if_pos (by omega)];simp;omega
theorem a8H : ∀ a,cmpL a a=0
 | []=>rfl
 | x::a=>by unfold cmpL;rw [if_neg (by omega),if_neg (by omega)];exact a8H a
theorem a8I : ∀ a b c,cmpL a b<0->cmpL b c<0->cmpL a c<0
 | [],[],c,h,_=>by simp [cmpL] at h
 | [],y::b,[],_,h=>by simp [cmpL] at h
 | [],y::b,z::c,_,_=>by simp [cmpL]
 | x::a,[],c,h,_=>by simp [cmpL] at h
 | x::a,y::b,[],_,h=>by simp [cmpL] at h
 | x::a,y::b,z::c,h,h'=>by
   unfold cmpL at h h' ⊢;by_cases h1:x<z
   ·rw [if_pos h1];decide
   rw [if_neg h1];by_cases h2:z<x
   ·exfalso;split at h <;> split at h'
    ·omega
    ·split at h' <;> omega
    ·split at h <;> omega
    split at h
    ·omega
    split at h' <;> omega
   rw [if_neg h2];split at h <;> split at h'
   ·omega
   ·split at h' <;> omega
   ·split at h <;> omega
   split at h
   ·omega
   split at h'
   ·omega
   exact a8I a b c h h'
theorem a6i : ∀ a b,¬ cmpL a b<0 -> ¬ cmpL b a<0->a=b
 | [],[],_,_=>rfl
 | [],y::b,h,_=>by simp [cmpL] at h
 | x::a,[],_,h=>by simp [cmpL] at h
 | x::a,y::b,h,h'=>by
   unfold cmpL at h h';by_cases h1:x<y
   ·rw [if_pos h1] at h;simp at h
   by_cases h2:y<x
   ·rw [if_pos h2] at h';simp at h'
   rw [if_neg h1,if_neg h2] at h;rw [if_neg h2,if_neg h1] at h';rw [a6i a b h h',show x=y by omega]
theorem a4O {a b:List Call} (ha:GH a) (hb:GH b):ltF (fun a0 b0=>Z43 Ar.std a0 b0) (a0b a) (a0b b)=decide (cmpL (a.map a5R) (b.map a5R)<0):=by
 unfold ltF;simp only [b7H ha hb];exact decide_eq_decide.2 (c2a ha.2 hb.2)
theorem a4k : ∀ {a b:List Call},(∀ x∈a,GC x)->(∀ x∈b,GC x)->a.map a5R=b.map a5R->a=b
 | [],[],_,_,_=>rfl
 | [],_::_,_,_,h=>by simp at h
 | _::_,[],_,_,h=>by simp at h
 | x::a,y::b,ha,hb,h=>by
   rw [List.map_cons,List.map_cons,List.cons.injEq] at h;rw [b6O (ha x (by simp)) (hb y (by simp)) h.1,a4k (fun x hx=>ha x (by simp [hx])) (fun x hx=>hb x (by simp [hx])) h.2]
theorem c4N (l:List (List Call)) (hl : ∀ h∈l,GH h):CmpOk (fun a0 b0=>Z43 Ar.std a0 b0) (l.map a0b) where
 some x hx y hy:=by
  obtain ⟨a,ha,rfl⟩:=List.mem_map.1 hx;obtain ⟨b,hb,rfl⟩:=List.mem_map.1 hy;exact ⟨_,b7H (hl a ha) (hl b hb)⟩
 irr x hx:=by
  obtain ⟨a,ha,rfl⟩:=List.mem_map.1 hx;rw [a4O (hl a ha) (hl a ha),a8H];rfl
 tr x hx y hy z hz h1 h2:=by
  obtain ⟨a,ha,rfl⟩:=List.mem_map.1 hx;obtain ⟨b,hb,rfl⟩:=List.mem_map.1 hy;obtain ⟨c,hc,rfl⟩:=List.mem_map.1 hz;rw [a4O (hl a ha) (hl b hb),decide_eq_true_eq] at h1;rw [a4O (hl b hb) (hl c hc),decide_eq_true_eq] at h2;rw [a4O (hl a ha) (hl c hc),decide_eq_true_eq];exact a8I _ _ _ h1 h2
 tot x hx y hy h1 h2:=by
  obtain ⟨a,ha,rfl⟩:=List.mem_map.1 hx;obtain ⟨b,hb,rfl⟩:=List.mem_map.1 hy;rw [a4O (hl a ha) (hl b hb),decide_eq_false_iff_not] at h1;rw [a4O (hl b hb) (hl a ha),decide_eq_false_iff_not] at h2;rw [a4k (hl a ha).2 (hl b hb).2 (a6i _ _ h1 h2)]
def GHs (n:Nat) (l:List (List Call)):Prop:=l.length=n /\ ∀ h∈l,GH h
theorem a8J {l:List (List Call)} {j:Nat} {h:List Call} (hj:l[j]?=some h) {z:Int} (hz:z=(j:Int)):gc Ar.std (cL 6) (a2E l) (Ar.std.nat z)=some (a0b h):=by
 subst hz;have:Ar.std.nat ((j:Nat):Int)=j:=by simp
 rw [this];exact a2U (by rw [List.getElem?_map,hj];rfl)
theorem c2b (l:List (List Call)) (k:Nat) (h:List Call) {z:Int} (hz:z=(k:Int)):Ar.std.lset (a2E l) (Ar.std.nat z) (.list 6 (a0b h))=a2E (l.set k h):=by
 subst hz;have:Ar.std.nat ((k:Nat):Int)=k:=by simp
 rw [this,b5Z];unfold a2E;rw [List.map_set];exact a3D _ _ _
theorem a7Y (l:List (List Call)):Ar.std.len (a2E l)=(l.length:Int):=by unfold a2E;simp
theorem GHs.set {n:Nat} {l:List (List Call)} (h:GHs n l) (k:Nat) {x:List Call} (hx:GH x):GHs n (l.set k x) :=
 ⟨by rw [List.length_set];exact h.1,fun y hy=>by
  rcases List.mem_or_eq_of_mem_set hy with hy | rfl
  ·exact h.2 y hy
  exact hx⟩
section
variable {c:Code} {u:Tab} (hv:a1e c=true) (hu:a3E c u=true)
include hv hu
theorem a9W : ∀ (k:Nat) (m:Mc),MInv c u m->TInv c u m -> ∀ e∈a3c c u [] k m,MInv c u e/\TInv c u e/\e.st<=m.st+k
 | 0,m,hi,hT,e,he=>by
   rw [show a3c c u [] 0 m=[m] from rfl,List.mem_singleton] at he;subst he;exact ⟨hi,hT,by omega⟩
 | k+1,m,hi,hT,e,he=>by
   unfold a3c at he;cases hl:(a0y u m).isEmpty with
   | true =>
     rw [hl,cond_true,List.mem_singleton] at he;subst he;exact ⟨hi,hT,by omega⟩
   | false =>
     rw [hl,cond_false,List.mem_flatMap] at he;obtain ⟨t,ht,he⟩:=he;have hm:=a2N ht;have h0:0<=t:=by simp only [a3b,zp4,a0n] at hm;omega
     obtain ⟨T,rfl⟩:=zp9 h0;obtain ⟨h2,⟨g⟩⟩:=go1 hv hu hi hm;rw [Int.toNat_natCast] at he;obtain ⟨q1,q2,q3⟩:=a9W k _ (a9G [] hi h2 g) (a9M hi hT h2 g).1 e he;rw [a3F] at q3;exact ⟨q1,q2,by omega⟩
theorem c4O {m:Mc} (hi:MInv c u m) (hT:TInv c u m) (hs:m.st<=12):GH m.h:=by
 refine ⟨by have:=hi.st;omega,fun x hx => ?_⟩;obtain ⟨a,b,d,e,f,g⟩:=hT.one x hx;have hc:(c.length:Int)<=4:=by simp only [a1e,zp4,a0n] at hv;exact hv.1.2
 unfold dg at e;unfold GC;rcases g with g | g <;> omega
end
theorem a9X {c:Code} {u:Tab} {mks:List Int} : ∀ (k:Nat) (m:Mc),1<=(a3c c u mks k m).length
 | 0,m=>Nat.le_refl _
 | k+1,m=>by
   unfold a3c;cases hl:a0y u m with
   | nil=>exact Nat.le_refl _
   | cons t r =>
     have:=a9X (c:=c) (u:=u) (mks:=mks) k (a0j c u mks t.toNat m);show 1<=(List.flatMap _ (t::r)).length;rw [List.flatMap_cons,List.length_append];omega
theorem b9f (l:List (List Call)):loose (a2E l)=true:=by
 have:a7L (a2E l)=true:=by
  unfold a2E a7L enc;rw [List.all_map,List.all_map,List.all_eq_true];intro x _;exact a3q x
 unfold loose;rw [this,Bool.or_true]
def ltH (a b:List Call):Prop:=cmpL (a.map a5R) (b.map a5R)<0
theorem b4X {a b:List Call} (ha:GH a) (hb:GH b) (h : ¬ ltH a b) (h' : ¬ ltH b a):a=b:=a4k ha.2 hb.2 (a6i _ _ h h')
abbrev SS (l:List (List Call)):Prop:=l.Pairwise ltH
section
variable {h:List Call} (hh:GH h) {L:List (List Call)} (hL : ∀ x∈L,GH x) (hs:SS L) (hn:L.length<=100000)
include hh hL hs hn
end
instance:DecidableEq Call:=inferInstanceAs (DecidableEq (Int×Int×Int×Int×Int×Int))
section
variable {α:Type} [DecidableEq α]
def a2Z (l:List α) (j:Nat):Bool:=decide (j=0) || !decide (l[j]?=l[j-1]?)
def ddN (l:List α):Nat->List α
 | 0=>[]
 | j+1=>ddN l j++(match l[j]? with | some x=>bif a2Z l j then [x] else [] | none=>[])
theorem a4t {l:List α} {j:Nat} {x:α} (h:l[j]?=some x):ddN l (j+1)=bif a2Z l j then ddN l j++[x] else ddN l j:=by
 show ddN l j++_=_;rw [h];cases a2Z l j <;> simp
theorem b4Y (l:List α) : ∀ j,(ddN l j).length<=j
 | 0=>Nat.le_refl _
 | j+1=>by
   have:=b4Y l j;cases h:l[j]? with
   | none=>show (ddN l j++_).length<=_;rw [h];simp;omega
   | some x =>
     rw [a4t h];cases a2Z l j with
     | true=>rw [cond_true,List.length_append];simp;omega
     | false=>rw [cond_false];omega
theorem b4Z {l:List α} {q:Nat} (hq:q<=l.length) (h : ∀ j,1<=j->j<q->l[j]?≠l[j-1]?) : ∀ j,j<=q->ddN l j=l.take j
 | 0,_=>by simp [ddN]
 | j+1,hj=>by
   have hx:l[j]?=some l[j]:=zp1 (by omega);have hk:a2Z l j=true:=by
    unfold a2Z;by_cases h0:j=0
    ·rw [decide_eq_true h0];rfl
    rw [decide_eq_false h0,decide_eq_false (h j (by omega) (by omega))];rfl
   rw [a4t hx,hk,cond_true,b4Z hq h j (by omega),a0J hx]
theorem b0O {l:List α} : ∀ j,j<=l.length -> ∀ x,x∈ddN l j↔x∈l.take j
 | 0,_,x=>by simp [ddN]
 | j+1,hj,x=>by
   have hx:l[j]?=some l[j]:=zp1 (by omega);have ih:=b0O (l:=l) j (by omega) x;rw [a4t hx,a0J hx,List.mem_append,List.mem_singleton];cases hk:a2Z l j with
   | true=>rw [cond_true,List.mem_append,List.mem_singleton,ih]
   | false =>
     rw [cond_false,ih];refine ⟨.inl,fun h=>h.elim id fun h => ?_⟩;unfold a2Z at hk;rw [Bool.or_eq_false_iff,decide_eq_false_iff_not] at hk;have he:l[j]?=l[j-1]?:=by simpa using hk.2
     rw [hx] at he;have hl:j-1<l.length:=by omega
     rw [zp1 hl] at he;rw [h,Option.some.inj he,List.mem_take_iff_getElem];refine ⟨j-1,?_,rfl⟩;omega
end
theorem b7I {l:List (List Call)} (hg : ∀ x∈l,GH x) (hs:l.Pairwise fun x y => ¬ ltH y x) : ∀ j,j<=l.length->SS (ddN l j)
 | 0,_=>List.Pairwise.nil
 | j+1,hj=>by
   have hx:l[j]?=some l[j]:=zp1 (by omega);have ih:=b7I hg hs j (by omega);rw [a4t hx];cases hk:a2Z l j with
   | false=>rw [cond_false];exact ih
   | true =>
     rw [cond_true];refine List.pairwise_append.2 ⟨ih,List.pairwise_singleton _ _,fun x hx' y hy => ?_⟩;rw [List.mem_singleton] at hy;subst hy;have hm:=(b0O (l:=l) j (by omega) x).1 hx';obtain ⟨i,hi,rfl⟩:=List.mem_take_iff_getElem.1 hm;have hij:i<j:=by omega
     have hp:=List.pairwise_iff_getElem.1 hs;have h1:=hp i j (by omega) (by omega) hij;by_cases hlt:ltH l[i] l[j]
     ·exact hlt
     exfalso;have he:=b4X (hg _ (zp6 _)) (hg _ (zp6 _)) hlt h1;unfold a2Z at hk;rw [Bool.or_eq_true,decide_eq_true_eq] at hk;have hk:=hk.resolve_left (by omega);rw [Bool.not_eq_true',decide_eq_false_iff_not] at hk;apply hk;have hl:j-1<l.length:=by omega
     rw [hx,zp1 hl];congr 1;have h2:=hp (j-1) j hl (by omega) (by omega);by_cases hi1:i=j-1
     ·subst hi1;exact he.symm
     have h3:=hp i (j-1) (by omega) hl (by omega);rw [he] at h3;exact (b4X (hg _ (zp6 _)) (hg _ (zp6 _)) h3 h2).symm▸rfl
theorem b7J {a b:List Call} (ha:GH a) (hb:GH b):Z47 Ar.std (a0b a) (a0b b)=some (decide (a=b)):=by
 have hla:=ha.1;unfold Z47;by_cases hl:a.length=b.length
 ·have e:=a2V (step:=b3t Ar.std (a0b a) (a0b b)) a.length (fun i => !decide (a[i]?=b[i]?)) (.inr ()) (.inl ()) (fun i hi=>by
   have h1:=zp1 hi;have h2:=zp1 (show i<b.length by omega);have hd:Ar.std.deq [(.int .i64 a[i].1),(.int .i64 a[i].2.1),(.int .i64 a[i].2.2.1),(.int .i64 a[i].2.2.2.1),(.int .i64 a[i].2.2.2.2.1),(.int .i64 a[i].2.2.2.2.2)] [(.int .i64 b[i].1),(.int .i64 b[i].2.1),(.int .i64 b[i].2.2.1),(.int .i64 b[i].2.2.2.1),(.int .i64 b[i].2.2.2.2.1),(.int .i64 b[i].2.2.2.2.2)]=decide (a[i]?=b[i]?):=by
    rw [b8i,h1,h2];generalize a[i]=x;generalize b[i]=y;obtain ⟨x1,x2,x3,x4,x5,x6⟩:=x;obtain ⟨y1,y2,y3,y4,y5,y6⟩:=y;refine decide_eq_decide.2 ?_;simp
   unfold b3t;refine cnT (by simp;omega) (bt (a0t h1) (bt (a0t h2) ?_));cases hdd:decide (a[i]?=b[i]?) with
   | true=>refine cnT (hd.trans hdd) ?_;simp only [a0g,a0i,a0G (i:=i) (n:=200) (by omega) (by decide)];rfl
   | false=>exact cnF (hd.trans hdd) rfl) (by unfold b3t;exact cnF (by simp) rfl)
  refine cnT (by simp [hl]) (bt e ?_);cases hb':(List.range a.length).any fun i => !decide (a[i]?=b[i]?) with
  | true =>
    obtain ⟨i,_,h⟩:=List.any_eq_true.1 hb';have : ¬ a=b:=fun h'=>by subst h';simp at h
    rw [decide_eq_false this];rfl
  | false =>
    have:a=b:=by
     refine List.ext_getElem? fun i => ?_;rcases Nat.lt_or_ge i a.length with h | h
     ·have:=(List.any_eq_false.1 hb') i (List.mem_range.2 h);simpa using this
     rw [List.getElem?_eq_none h,List.getElem?_eq_none (by omega)]
    rw [decide_eq_true this];rfl
 refine cnF (by simp;omega) ?_;rw [decide_eq_false (fun h=>hl (by rw [h]))]
theorem b6P {n q:Nat} (hn:n<=100000) (hq:1<=q) (hqn:q<n) {l:List (List Call)} (hl:GHs n l) (hdup:l[q]?=l[q-1]?) (hno : ∀ j,1<=j->j<q->l[j]?≠l[j-1]?) :
  ∃ (l':List (List Call)),q<=(ddN l n).length/\(ddN l n).length<n/\GHs n l'/\l'.take (ddN l n).length=ddN l n/\iter (b0l Ar.std 0 (n:Int) (q:Int)) ((q:Int),1,a2E l)=some (((ddN l n).length:Int),a2E l'):=by
 have hll:=hl.1;have h0:ddN l (q+1)=l.take q:=by
  have hx:l[q]?=some l[q]:=zp1 (by omega);have hk:a2Z l q=false:=by
   unfold a2Z;rw [decide_eq_false (by omega),decide_eq_true hdup];rfl
  rw [a4t hx,hk,cond_false];exact b4Z (q:=q) (by omega) hno q (Nat.le_refl _)
 obtain ⟨⟨k,l'⟩,⟨h1,h2,h3,h4,h5,h6⟩,e⟩:=a3C (step:=b0l Ar.std 0 (n:Int) (q:Int)) (n-q-1) (fun (s:Nat×List (List Call)) (i:Nat)=>((s.1:Int),((i+1:Nat):Int),a2E s.2))
  (fun i s=>q<=s.1/\s.1<=q+i/\GHs n s.2/\s.1=(ddN l (q+i+1)).length/\s.2.take s.1=ddN l (q+i+1) /\ ∀ j,q+i<=j->s.2[j]?=l[j]?) (fun s=>((s.1:Int),a2E s.2))
  (fun i s hi ⟨g1,g2,g3,g4,g5,g6⟩=>by
   obtain ⟨k,m⟩:=s;simp only at g1 g2 g3 g4 g5 g6;have hm:=g3.1;have hx:l[q+i+1]?=some l[q+i+1]:=zp1 (by omega);have hy:l[q+i]?=some l[q+i]:=zp1 (by omega);have mx:m[q+i+1]?=some l[q+i+1]:=by rw [g6 _ (by omega),hx]
   have my:m[q+i]?=some l[q+i]:=by rw [g6 _ (by omega),hy]
   have gx:=hl.2 _ (List.mem_of_getElem? hx);have gy:=hl.2 _ (List.mem_of_getElem? hy);have hr:=b7J gx gy;have hk:a2Z l (q+i+1) = !decide (l[q+i+1]=l[q+i]):=by
    unfold a2Z;rw [decide_eq_false (by omega),Bool.false_or,show q+i+1-1=q+i by omega,hx,hy];congr 1;exact decide_eq_decide.2 ⟨fun h=>Option.some.inj h,fun h=>by rw [h]⟩
   have hdd:=a4t hx;rw [hk] at hdd;have hw:IntKind.i64.wrap (((i+1:Nat):Int)-1)=(i:Int):=by rw [a8P _ (by omega) (by omega)];omega
   have c1 : ∀ a:Bool,a=true->ck a=some ():=fun a h=>by rw [h];rfl
   have e1:Ar.std.zlt (((i+1:Nat):Int)) (Ar.std.zsub (n:Int) (q:Int))=true:=by simp;omega
   have e0:Ar.std.zle 0 (((i+1:Nat):Int))=true:=by simp;omega
   cases hd:decide (l[q+i+1]=l[q+i]) with
   | true =>
     rw [hd] at hr hdd;refine ⟨(k,m),⟨g1,by simp only;omega,g3,?_,?_,fun j hj=>g6 j (by omega)⟩,?_⟩
     ·simp only;rw [show q+(i+1)+1=q+i+1+1 by omega,hdd];exact g4
     ·simp only;rw [show q+(i+1)+1=q+i+1+1 by omega,hdd];exact g5
     unfold b0l;refine cnT e1 (bt (c1 _ e0) (bt (c1 _ e1) (bt (a8J mx (by simp;omega)) (bt (v:=()) (c1 _ (by simp only [a0g,a0D,hw];simp)) (bt (v:=()) (c1 _ (by simp only [a0g,a0D,hw];simp;omega)) (bt (a8J my (by simp only [a0g,a0D,hw];simp)) (bt hr (bt (v:=((k:Int),a2E m)) rfl ?_))))))));simp only [a0g,a0i,a0G (i:=i+1) (n:=100001) (by omega) (by decide)]
   | false =>
     rw [hd] at hr hdd;have htk:(m.set k l[q+i+1]).take (k+1)=ddN l (q+i+1)++[l[q+i+1]]:=by
      have:(m.set k l[q+i+1])[k]?=some l[q+i+1]:=List.getElem?_set_self (by omega);rw [a0J this,List.take_set_of_le (Nat.le_refl _),g5]
     refine ⟨(k+1,m.set k l[q+i+1]),⟨by simp only;omega,by simp only;omega,g3.set k gx,?_,?_,fun j hj => ?_⟩,?_⟩
     ·simp only;rw [show q+(i+1)+1=q+i+1+1 by omega,hdd,Bool.not_false,cond_true,List.length_append,<-g4];rfl
     ·simp only;rw [show q+(i+1)+1=q+i+1+1 by omega,hdd,Bool.not_false,cond_true];exact htk
     ·simp only;rw [List.getElem?_set_ne (by omega)];exact g6 j (by omega)
     unfold b0l;have hk' : ∃ d,Ar.std.lget (a2E m) (Ar.std.nat (Ar.std.zadd 0 (k:Int)))=some d:=by
      have:Ar.std.nat (Ar.std.zadd 0 (k:Int))=k:=by simp
      rw [this,a4Z];exact ⟨_,zp1 (by unfold a2E;simp;omega)⟩
     obtain ⟨d,hd'⟩:=hk';refine cnT e1 (bt (c1 _ e0) (bt (c1 _ e1) (bt (a8J mx (by simp;omega)) (bt (v:=()) (c1 _ (by simp only [a0g,a0D,hw];simp)) (bt (v:=()) (c1 _ (by simp only [a0g,a0D,hw];simp;omega)) (bt (a8J my (by simp only [a0g,a0D,hw];simp)) (bt hr (bt (v:=(((k+1:Nat):Int),a2E (m.set k l[q+i+1]))) ?_ ?_))))))))
     ·refine cnF rfl (bt (c1 _ e0) (bt (c1 _ e1) (bt (a8J mx (by simp;omega)) (bt (v:=()) (c1 _ (by simp)) (bt (v:=()) (c1 _ (by simp;omega)) (bt hd' ?_))))));rw [c2b m k _ (by simp)];simp only [a0g,a0i,a0G (i:=k) (n:=100001) (by omega) (by decide)]
     simp only [a0g,a0i,a0G (i:=i+1) (n:=100001) (by omega) (by decide)])
  (fun s _=>by unfold b0l;exact cnF (by simp;omega) rfl) (q,l) ⟨Nat.le_refl _,by simp,hl,by simp only;rw [Nat.add_zero,h0,List.length_take];omega,by simp only;rw [Nat.add_zero,h0],fun j _=>rfl⟩
 rw [show q+(n-q-1)+1=n by omega] at h4 h5;simp only at h1 h2 h4 h5;rw [<-h4];exact ⟨l',h1,by omega,h3,h5,e⟩
theorem c2c {n:Nat} (hn:n<=100000) (h0:1<=n) {l:List (List Call)} (hl:GHs n l) (z1 z2:Int) :
  ∃ (l':List (List Call)),GHs n l'/\l'.take (ddN l n).length=ddN l n/\Z46 Ar.std 0 (n:Int) z1 z2 (a2E l)=some (0,((ddN l n).length:Int),a2E l'):=by
 have hll:=hl.1;have hnone : ∀ i,i<=n->(∀ j,1<=j->j<i->l[j]?≠l[j-1]?)->ddN l i=l.take i:=fun i hi h=>b4Z (q:=i) (by omega) h i (Nat.le_refl _);unfold Z46;by_cases h2:n<2
 ·have e:=hnone n (Nat.le_refl _) (fun j h1 h2=>by omega);rw [List.take_of_length_le (by omega)] at e;rw [e];refine ⟨l,hl,List.take_length,?_⟩;rw [hll];exact cnT (by simp;omega) rfl
 have c1 : ∀ a:Bool,a=true->ck a=some ():=fun a h=>by rw [h];rfl
 rcases a4d (step:=b1Y Ar.std 0 (n:Int) (a2E l)) (n-1) (fun (_:Unit) (i:Nat)=>((i+1:Nat):Int)) (fun i _ => ∀ j,1<=j->j<i+1->l[j]?≠l[j-1]?) (fun _ x => ∃ (l':List (List Call)),GHs n l'/\l'.take (ddN l n).length=ddN l n/\x = .inr (((ddN l n).length:Int),a2E l')) (fun _ => .inl ())
  (fun i s hi hno=>by
   have hx:l[i+1]?=some l[i+1]:=zp1 (by omega);have hy:l[i]?=some l[i]:=zp1 (by omega);have hr:=b7J (hl.2 _ (List.mem_of_getElem? hx)) (hl.2 _ (List.mem_of_getElem? hy));have hw:IntKind.i64.wrap (((i+1:Nat):Int)-1)=(i:Int):=by rw [a8P _ (by omega) (by omega)];omega
   have e0:Ar.std.zle 0 (((i+1:Nat):Int))=true:=by simp;omega
   have e1:Ar.std.zlt (((i+1:Nat):Int)) (n:Int)=true:=by simp;omega
   cases hd:decide (l[i+1]=l[i]) with
   | false =>
     rw [hd] at hr;refine .inl ⟨(),fun j hj1 hj2 => ?_,?_⟩
     ·by_cases hji:j=i+1
      ·subst hji;rw [hx,show i+1-1=i by omega,hy];exact fun h=>(of_decide_eq_false hd) (Option.some.inj h)
      exact hno j hj1 (by omega)
     unfold b1Y;refine cnT e1 (bt (c1 _ e0) (bt (c1 _ e1) (bt (a8J hx (by simp)) (bt (v:=()) (c1 _ (by simp only [a0g,a0D,hw];simp)) (bt (v:=()) (c1 _ (by simp only [a0g,a0D,hw];simp;omega)) (bt (a8J hy (by simp only [a0g,a0D,hw];simp)) (bt hr (cnF rfl ?_))))))));simp only [a0g,a0i,a0G (i:=i+1) (n:=100001) (by omega) (by decide)]
   | true =>
     rw [hd] at hr;obtain ⟨l',g1,g2,g3,g4,e⟩:=b6P hn (q:=i+1) (by omega) (by omega) hl (by rw [hx,show i+1-1=i by omega,hy,of_decide_eq_true hd]) hno;generalize hk:(ddN l n).length=k at g1 g2 g4 e;refine .inr ⟨.inr ((k:Int),a2E (l'.take k++List.replicate (n-k) [])),⟨_,⟨by have:=g3.1;simp;omega,fun h hh => ?_⟩,?_,rfl⟩,?_⟩
     ·rcases List.mem_append.1 hh with hh | hh
      ·exact g3.2 h (List.mem_of_mem_take hh)
      rw [(List.mem_replicate.1 hh).2];exact ⟨by simp,fun x hx=>by simp at hx⟩
     ·have hkl:(l'.take k).length=k:=by have:=g3.1;rw [List.length_take];omega
      rw [List.take_append_of_le_length (by omega),List.take_take,Nat.min_self];exact g4
     unfold b1Y;have hlen':=a7Y l';rw [g3.1] at hlen';refine cnT e1 (bt (c1 _ e0) (bt (c1 _ e1) (bt (a8J hx (by simp)) (bt (v:=()) (c1 _ (by simp only [a0g,a0D,hw];simp)) (bt (v:=()) (c1 _ (by simp only [a0g,a0D,hw];simp;omega)) (bt (a8J hy (by simp only [a0g,a0D,hw];simp)) (bt hr (cnT rfl ?_))))))));refine bt (c1 _ e0) (bt (v:=()) (c1 _ (by simp;omega)) (bt (v:=()) (c1 _ (by simp)) (bt e ?_)));dsimp only;refine bt (v:=()) (c1 _ (by simp)) (bt (v:=()) (c1 _ (by simp;omega)) (bt (v:=()) (c1 _ (by simp)) (bt (v:=()) (c1 _ (by rw [hlen'];simp;omega)) (bt (v:=()) (c1 _ (by simp)) (bt (v:=()) (c1 _ (by simp)) (bt (v:=()) (c1 _ (by simp;omega)) ?_))))));have hf:Ar.std.fill (a2E l') (Ar.std.zadd 0 (k:Int)) (Ar.std.zsub (n:Int) (k:Int)) (.list 6 [])=a2E (l'.take k++List.replicate (n-k) []):=by
      have hl':=g3.1;have a1:Ar.std.zadd 0 (k:Int)=(k:Int):=by simp
      have a2:Ar.std.zsub (n:Int) (k:Int)=((n-k:Nat):Int):=by simp;omega
      rw [a1,a2,b6a];unfold a1B a2E;rw [Int.toNat_natCast,Int.toNat_natCast,List.drop_eq_nil_of_le (by simp;omega),List.append_nil,List.map_append,b2t,List.map_take,List.map_replicate];congr 1
      ·unfold enc;rw [List.map_take]
      unfold enc;rw [List.map_replicate];rfl
     rw [hf];simp)
  (fun s _=>by
   unfold b1Y;exact cnF (by simp;omega) rfl) () (fun j h1 h2=>by omega) with ⟨_,hno,e⟩ | ⟨_,x,_,⟨l',g1,g2,rfl⟩,e⟩
 ·have e':=hnone n (Nat.le_refl _) (fun j h1 h2=>hno j h1 (by omega));rw [List.take_of_length_le (by omega)] at e';rw [e'];refine ⟨l,hl,List.take_length,?_⟩;rw [hll];exact cnF (by simp;omega) (bt e rfl)
 exact ⟨l',g1,g2,cnF (by simp;omega) (bt e (by simp))⟩
theorem a9Y (hs:List (List Call)) (h1:1<=hs.length) (h2:hs.length<=100000) (hg : ∀ h∈hs,GH h) :
  ∃ ss:List (List Call),SS ss/\(∀ x,x∈ss↔x∈hs)/\ss.length<=hs.length /\
    ∃ (r20:List D) (n:Int) (r24:List D),b9V Ar.std 0 (Ar.std.len (a2E hs)) 0 (Ar.std.len (a2E hs)) (a2E hs)=some r20/\Z46 Ar.std 0 (Ar.std.len (a2E hs)) 0 (Ar.std.len (a2E hs)) r20=some (0,n,r24)/\fz Ar.std r24 0 n=some (a2E ss):=by
 have hlen:=a7Y hs;have hcmp:=c4N hs hg;obtain ⟨s0,hs0⟩ : ∃ s0,s0=hs.mergeSort fun a b => !decide (cmpL (b.map a5R) (a.map a5R)<0):=⟨_,rfl⟩;have e0:s0.map a0b=(hs.map a0b).mergeSort fun x y => !ltF (fun a0 b0=>Z43 Ar.std a0 b0) y x:=by
  rw [hs0];exact List.map_mergeSort fun a ha b hb=>by rw [a4O (hg b hb) (hg a ha)]
 have hmem0 : ∀ x,x∈s0↔x∈hs:=fun x=>by rw [hs0,List.mem_mergeSort]
 have g0 : ∀ x∈s0,GH x:=fun x hx=>hg x ((hmem0 x).1 hx);have hl0:s0.length=hs.length:=by
  have:=congrArg List.length e0;rw [List.length_map,List.length_mergeSort,List.length_map] at this;exact this
 have e94:b9V Ar.std 0 (Ar.std.len (a2E hs)) 0 (Ar.std.len (a2E hs)) (a2E hs)=some (a2E s0):=by
  unfold b9V;rw [hlen];have:=b7n (c:=cL 6) (f:=fun a0 b0=>Z43 Ar.std a0 b0) (n:=(hs.length:Int)) (xs:=hs.map a0b) (by rw [List.length_map]) (by omega) hcmp;rw [<-e0] at this;exact this
 have hsort:s0.Pairwise fun x y => ¬ ltH y x:=by
  have hp:=List.pairwise_mergeSort (le:=fun a b:List Call => !decide (cmpL (b.map a5R) (a.map a5R)<0)) (fun a b c h1 h2=>by
   simp only [Bool.not_eq_true',decide_eq_false_iff_not] at h1 h2 ⊢;intro h;by_cases hab:cmpL (a.map a5R) (b.map a5R)<0
   ·exact h2 (a8I _ _ _ h hab)
   ·rw [a6i _ _ hab h1] at h;exact h2 h) (fun a b=>by
   simp only [Bool.or_eq_true,Bool.not_eq_true',decide_eq_false_iff_not];by_cases hab:cmpL (b.map a5R) (a.map a5R)<0
   ·right;intro h;have:=a8I _ _ _ hab h;rw [a8H] at this;exact absurd this (by decide)
   exact .inl hab) hs
  rw [<-hs0] at hp;exact hp.imp fun {x y} h=>by
   simp only [Bool.not_eq_true',decide_eq_false_iff_not] at h;exact h
 obtain ⟨l',k3,k4,e98⟩:=c2c h2 h1 (l:=s0) ⟨hl0,g0⟩ 0 (hs.length:Int);have hll:=k3.1;have hdl:=b4Y s0 hs.length;refine ⟨ddN s0 hs.length,b7I g0 hsort _ (by omega),fun x => ?_,hdl,_,_,_,e94,by rw [hlen];exact e98,?_⟩
 ·rw [b0O (l:=s0) _ (by omega),List.take_of_length_le (by omega),hmem0]
 unfold fz;have hz:Ar.std.zle (Ar.std.zadd 0 ((ddN s0 hs.length).length:Int)) (Ar.std.len (a2E l'))=true:=by rw [a7Y];simp;omega
 rw [hz,cond_true];simp only [a0i,b4k,Int.zero_add,Int.toNat_zero,List.drop_zero,Nat.sub_zero,Int.toNat_natCast];have:List.take (ddN s0 hs.length).length (a2E l')=a2E (l'.take (ddN s0 hs.length).length):=by
  unfold a2E enc;rw [<-List.map_take,<-List.map_take]
 rw [this,k4]
end Go.Am
