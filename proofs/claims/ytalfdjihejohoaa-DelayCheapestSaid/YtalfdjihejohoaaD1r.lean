/- Own text: D1r. -/
import Derived.Test.YtalfdjihejohoaaAmLoop
import Derived.Test.YtalfdjihejohoaaProg
import Derived.KernelRfl
import Derived.Test.YtalfdjihejohoaaAmList
open Go Go.Am Go.Proofs
set_option maxRecDepth 100000
def tl:List (TypeId×TD):=[
(3,⟨1,.int .i64,[.d (.int .i64 0)]⟩),
 (4,⟨1,.bool,[.d (.bool false)]⟩),
 (5,⟨1,.int .u8,[.d (.int .u8 0)]⟩),
 (22,⟨1,.slice 25,[.own 1 []]⟩),
 (25,⟨1,.slice 76,[.own 2 []]⟩),
 (26,⟨1,.int .i64,[.d (.int .i64 0)]⟩),
 (32,⟨1,.slice 40,[.own 3 []]⟩),
 (40,⟨3,.array 3 3,[.d (.int .i64 0),.d (.int .i64 0),.d (.int .i64 0)]⟩),
 (48,⟨1,.slice 55,[.own 1 []]⟩),
 (49,⟨1,.slice 118,[.own 2 []]⟩),
 (55,⟨1,.slice 3,[.own 1 []]⟩),
 (56,⟨1,.slice 114,[.own 1 []]⟩),
 (76,⟨2,.struct [(3,0),(4,1)],[.d (.int .i64 0),.d (.bool false)]⟩),
 (77,⟨1,.other,[.nilfunc]⟩),
 (78,⟨1,.slice 25,[.own 1 []]⟩),
 (79,⟨1,.slice 82,[.own 2 []]⟩),
 (82,⟨2,.struct [(3,0),(3,1)],[.d (.int .i64 0),.d (.int .i64 0)]⟩),
 (89,⟨1,.other,[.nilfunc]⟩),
 (90,⟨1,.other,[.nilfunc]⟩),
 (92,⟨1,.slice 98,[.own 3 []]⟩),
 (98,⟨3,.array 3 3,[.d (.int .i64 0),.d (.int .i64 0),.d (.int .i64 0)]⟩),
 (99,⟨1,.other,[.nilfunc]⟩),
 (100,⟨1,.slice 32,[.own 1 []]⟩),
 (102,⟨1,.other,[.nilfunc]⟩),
 (103,⟨1,.slice 119,[.own 2 []]⟩),
 (114,⟨1,.slice 116,[.own 3 []]⟩),
 (116,⟨3,.struct [(3,0),(3,1),(3,2)],[.d (.int .i64 0),.d (.int .i64 0),.d (.int .i64 0)]⟩),
 (118,⟨2,.array 2 3,[.d (.int .i64 0),.d (.int .i64 0)]⟩),
 (119,⟨2,.array 2 3,[.d (.int .i64 0),.d (.int .i64 0)]⟩),
 (125,⟨1,.other,[.nilfunc]⟩),
 (128,⟨1,.map 119 3,[.nilmap]⟩),
 (130,⟨1,.other,[.nilfunc]⟩),
 (135,⟨1,.map 98 4,[.nilmap]⟩),
 (142,⟨1,.other,[.nilfunc]⟩),
 (153,⟨1,.other,[.nilfunc]⟩),
 (156,⟨1,.int .u64,[.d (.int .u64 0)]⟩)
]
def T:Types:=tlook tl
theorem hT:TOk Try.prog T:=TOk.of_list (by kernel_rfl)

set_option linter.unusedVariables false
set_option linter.unusedSimpArgs false
namespace Go.Am
open Go Go.Proofs
noncomputable abbrev P:=Try.prog
abbrev I (n:Int):D := .int .i64 n
abbrev AI (n:Int):AV := .d (.int .i64 n)
abbrev AB (b:Bool):AV := .d (.bool b)
theorem wrapI (n:Int) (h0 : -9223372036854775808<=n) (h1:n<9223372036854775808):IntKind.i64.wrap n=n:=by
 simp [IntKind.wrap_i64];omega
theorem ar_len {A:Ar} (hA:A=Ar.std) (l:List D) (n:Int) (h:(l.length:Int)=n):A.len l=n:=by subst hA;exact h
theorem ar_sub {A:Ar} (hA:A=Ar.std) (x y z:Int) (h:x-y=z) (h0 : -9223372036854775808<=z) (h1:z<9223372036854775808):A.wrp .i64 (A.zsub x y)=z:=by subst hA;subst h;exact wrapI _ h0 h1
theorem ar_add {A:Ar} (hA:A=Ar.std) (x y z:Int) (h:x+y=z) (h0 : -9223372036854775808<=z) (h1:z<9223372036854775808):A.wrp .i64 (A.zadd x y)=z:=by subst hA;subst h;exact wrapI _ h0 h1
theorem ar_le {A:Ar} (hA:A=Ar.std) {x y:Int} (h:x<=y):A.zle x y=true:=by subst hA;simpa [Ar.std] using h
theorem ar_nle {A:Ar} (hA:A=Ar.std) {x y:Int} (h : ¬ x<=y):A.zle x y=false:=by subst hA;simpa [Ar.std] using h
theorem ar_lt {A:Ar} (hA:A=Ar.std) {x y:Int} (h:x<y):A.zlt x y=true:=by subst hA;simpa [Ar.std] using h
theorem ar_nlt {A:Ar} (hA:A=Ar.std) {x y:Int} (h : ¬ x<y):A.zlt x y=false:=by subst hA;simpa [Ar.std] using h
theorem ar_eq {A:Ar} (hA:A=Ar.std) {x y:Int} (h:x=y):A.zeq x y=true:=by subst hA;simpa [Ar.std] using h
theorem ar_ne {A:Ar} (hA:A=Ar.std) {x y:Int} (h : ¬ x=y):A.zeq x y=false:=by subst hA;simpa [Ar.std] using h
theorem ar_get {A:Ar} (hA:A=Ar.std) {l:List D} {x:Int} {y:D} (h:l[x.toNat]?=some y):A.lget l (A.nat x)=some y:=by subst hA;exact h
abbrev Acc:=Int×Bool
def dAcc (a:Acc):D := .agg [I a.1,.bool a.2]
def dAccs (l:List Acc):D := .list 2 (l.map dAcc)
def dX (x:List (List Acc)):D := .list 1 (x.map dAccs)
theorem between_ok (lo x hi:Int):ACall P 67 [AI lo,AI x,AI hi] [] (AB (decide (lo<=x)&&decide (x<=hi))) []:=by
 refine ACall.enter hT (fn:=Try.f67) Try.func67 rfl (by decide) (by simp [Try.f67]) rfl rfl rfl rfl (Nat.le_refl _) ?_
 refine AWp.seq (AWp.region (AOps.done hT (an:={}) (fun A hA=>by cbv) (Nat.zero_le _) ?_))
 by_cases h:lo<=x
 ·refine AWp.seq (AWp.region (AOps.done hT (an:={}) (fun A hA=>by
   have h1:A.zle lo x=true:=by subst hA;simpa [Ar.std] using h
   cbv
   simp only [h1]
   cbv
   subst hA;dsimp only [Ar.std]) (Nat.zero_le _) ?_))
  refine AWp.ret ⟨?_,rfl,rfl,Nat.zero_le _,[],rfl⟩
  simp [h]
  rfl
 ·refine AWp.seq (AWp.region (AOps.done hT (an:={}) (fun A hA=>by
   have h1:A.zle lo x=false:=by subst hA;simpa [Ar.std] using h
   cbv
   simp only [h1]
   cbv) (Nat.zero_le _) ?_))
  refine AWp.ret ⟨?_,rfl,rfl,Nat.zero_le _,[],rfl⟩
  simp [h]
  rfl
theorem at_ok (X L:List D) (t a v:Int) (b:Bool) (h0:0<=t) (h1:X[t.toNat]?=some (.list 2 L)) (h2:0<=a) (h3:L[a.toNat]?=some (.agg [I v,.bool b])) :
  ACall P 113 [.d (.list 1 X),.d (.agg [I t,I a])] [] (.d (.agg [I v,.bool b])) []:=by
 refine ACall.enter hT (fn:=Try.f113) Try.func113 rfl (by decide) (by simp [Try.f113]) rfl rfl rfl rfl (Nat.le_refl _) ?_
 refine AWp.reg {} hT (fun A hA=>by cbv) (Nat.zero_le _) ?_
 refine AWp.regD {} hT rfl (fun A hA=>by
   have e0:A.zle 0 t=true:=by subst hA;simpa [Ar.std] using h0
   have e1:A.lget X (A.nat t)=some (.list 2 L):=by subst hA;simpa [Ar.std] using h1
   have e2:A.zle 0 a=true:=by subst hA;simpa [Ar.std] using h2
   have e3:A.lget L (A.nat a)=some (.agg [I v,.bool b]):=by subst hA;simpa [Ar.std] using h3
   repeat (cbv;simp only [e0,e1,e2,e3])
   cbv) (by kernel_rfl) (Nat.zero_le _) ?_
 refine AWp.ret ⟨?_,rfl,rfl,Nat.zero_le _,[],rfl⟩
 rfl
theorem between_ok' (lo x hi:Int) (r:Bool) (h:(decide (lo<=x)&&decide (x<=hi))=r):ACall P 67 [AI lo,AI x,AI hi] [] (AB r) []:=h▸between_ok lo x hi
theorem in_ok (s0 s1 s2:Int):ACall P 112 [.d (.agg [I s0,I s1,I s2])] [] (.d (.agg [I s0,I s1])) []:=by
 refine ACall.enter hT (fn:=Try.f112) Try.func112 rfl (by decide) (by simp [Try.f112]) rfl rfl rfl rfl (Nat.le_refl _) ?_
 refine AWp.reg {} hT (fun A hA=>by cbv) (Nat.zero_le _) ?_
 refine AWp.reg {} hT (fun A hA=>by cbv) (Nat.zero_le _) ?_
 exact AWp.ret ⟨rfl,rfl,rfl,Nat.zero_le _,[],rfl⟩
theorem out_ok (s0 s1 s2:Int):ACall P 111 [.d (.agg [I s0,I s1,I s2])] [] (.d (.agg [I s0,I s2])) []:=by
 refine ACall.enter hT (fn:=Try.f111) Try.func111 rfl (by decide) (by simp [Try.f111]) rfl rfl rfl rfl (Nat.le_refl _) ?_
 refine AWp.reg {} hT (fun A hA=>by cbv) (Nat.zero_le _) ?_
 refine AWp.reg {} hT (fun A hA=>by cbv) (Nat.zero_le _) ?_
 exact AWp.ret ⟨rfl,rfl,rfl,Nat.zero_le _,[],rfl⟩
def Obj.inbG (o:Obj) (m:Nat):Bool:=o.inb m&&(match o with | .gro .. => false | _=>true)
theorem objsG {m:Nat} {o:Obj} {r:List Obj} (h:o.inbG m=true) (hr:objsInb m r=true):objsInb m (o::r)=true:=by
 unfold Obj.inbG at h
 rw [zp4] at h
 cases o <;> simp_all [objsInb]
def Small (x:List (List Acc)):Prop:=x.length<=1000 /\ ∀ l∈x,l.length<=1000
def there (x:List (List Acc)) (t a:Int):Bool:=decide (0<=t)&&(match x[t.toNat]? with | some l=>decide (0<=a)&&decide (a<l.length) | none=>false)
theorem there_ok (x:List (List Acc)) (t a:Int) (hx:Small x):ACall P 64 [.d (dX x),.d (.agg [I t,I a])] [] (AB (there x t a)) []:=by
 obtain ⟨X,hX⟩ : ∃ X,x.map dAccs=X:=⟨_,rfl⟩
 obtain ⟨n,hn⟩ : ∃ n:Int,(X.length:Int)=n:=⟨_,rfl⟩
 obtain ⟨n1,hn1⟩ : ∃ n1:Int,n-1=n1:=⟨_,rfl⟩
 have hxl:(x.length:Int)=n:=by rw [<-hn,<-hX];simp
 have hs:=hx.1
 unfold dX
 rw [hX]
 refine ACall.enter hT (fn:=Try.f64) Try.func64 rfl (by decide) (by simp [Try.f64]) rfl rfl rfl rfl (Nat.le_refl _) ?_
 refine AWp.reg {} hT (fun A hA=>by cbv) (Nat.zero_le _) ?_
 by_cases h:0<=t/\t<n
 ·obtain ⟨L,hL⟩ : ∃ L,x[t.toNat]?=some L:=⟨_,zp1 (by omega)⟩
  obtain ⟨L',hL'⟩ : ∃ L',L.map dAcc=L':=⟨_,rfl⟩
  obtain ⟨k,hk⟩ : ∃ n:Int,(L'.length:Int)=n:=⟨_,rfl⟩
  obtain ⟨k1,hk1⟩ : ∃ n1:Int,k-1=n1:=⟨_,rfl⟩
  obtain ⟨r,hr⟩ : ∃ r,(decide (0<=a)&&decide (a<k))=r:=⟨_,rfl⟩
  have hkL:(L.length:Int)=k:=by rw [<-hk,<-hL'];simp
  have hs2:=hx.2 L (List.mem_of_getElem? hL)
  have hXt:X[t.toNat]?=some (.list 2 L'):=by rw [<-hX,List.getElem?_map,hL,<-hL'];rfl
  refine AWp.seq (AWp.regionDraw rfl (Nat.zero_le _) (DOps.stepCall hT (an:={}) rfl (fun A hA=>by
   have e1:=ar_len hA X n hn
   have e2:=ar_sub hA n 1 n1 hn1 (by omega) (by omega)
   repeat (cbv;simp only [e1,e2])
   cbv) rfl rfl (Nat.le_of_ble_eq_true rfl) rfl rfl (between_ok' _ _ _ true (by simp;omega)) ?_))
  refine DOps.stepCall hT (an:={}) rfl (fun A hA=>by
   have e1:=ar_len hA L' k hk
   have e2:=ar_sub hA k 1 k1 hk1 (by omega) (by omega)
   have e3:=ar_get hA hXt
   have e4:=ar_le hA h.1
   repeat (cbv;simp only [e1,e2,e3,e4])
   cbv) rfl rfl (Nat.le_of_ble_eq_true rfl) rfl rfl (between_ok' _ _ _ r (by rw [<-hr];congr 1;simp;omega)) ?_
  refine DOps.done hT (an:={}) rfl (fun A hA=>by cbv) (by kernel_rfl) ?_
  refine AWp.ret ⟨?_,rfl,rfl,Nat.zero_le _,[],rfl⟩
  simp [there,h.1,hL,hkL,hr]
  rfl
 ·refine AWp.seq (AWp.regionDraw rfl (Nat.zero_le _) (DOps.stepCall hT (an:={}) rfl (fun A hA=>by
   have e1:=ar_len hA X n hn
   have e2:=ar_sub hA n 1 n1 hn1 (by omega) (by omega)
   repeat (cbv;simp only [e1,e2])
   cbv) rfl rfl (Nat.le_of_ble_eq_true rfl) rfl rfl (between_ok' _ _ _ false (by simp;omega)) ?_))
  refine DOps.done hT (an:={}) rfl (fun A hA=>by cbv) (by kernel_rfl) ?_
  refine AWp.ret ⟨?_,rfl,rfl,Nat.zero_le _,[],rfl⟩
  have:there x t a=false:=by
   unfold there
   by_cases h0:0<=t
   ·rw [List.getElem?_eq_none (by omega)];simp
   ·simp [h0]
  rw [this]
  rfl
end Go.Am

namespace Go.Am
open Go Go.Proofs
def acc (x:List (List Acc)) (t a:Int):Acc:=((x[t.toNat]?).bind (·[a.toNat]?)).getD (0,false)
theorem there_get {x:List (List Acc)} {t a:Int} (h:there x t a=true):0<=t/\0<=a /\ ∃ L,x[t.toNat]?=some L/\L[a.toNat]?=some (acc x t a):=by
 unfold there at h
 simp only [zp4,decide_eq_true_eq] at h
 obtain ⟨h0,h⟩:=h
 split at h
 ·rename_i L hL
  simp only [zp4,decide_eq_true_eq] at h
  refine ⟨h0,h.1,L,hL,?_⟩
  unfold acc
  rw [hL]
  simp only [Option.bind_some]
  rw [zp1 (by omega)]
  rfl
 ·cases h
theorem at_ok' (x:List (List Acc)) (t a:Int) (h:there x t a=true):ACall P 113 [.d (dX x),.d (.agg [I t,I a])] [] (.d (.agg [I (acc x t a).1,.bool (acc x t a).2])) []:=by
 obtain ⟨h0,h1,L,h2,h3⟩:=there_get h
 exact at_ok _ (L.map dAcc) t a _ _ h0 (by rw [List.getElem?_map,h2];rfl) h1 (by rw [List.getElem?_map,h3];rfl)
def conflict (x:List (List Acc)) (t a u b:Int):Bool:=decide (t≠u)&&decide ((acc x t a).1=(acc x u b).1)&&((acc x t a).2||(acc x u b).2)
theorem conflict_ok (x:List (List Acc)) (t a u b:Int) (h:there x t a=true) (h':there x u b=true) :
  ACall P 63 [.d (dX x),.d (.agg [I t,I a]),.d (.agg [I u,I b])] [] (AB (conflict x t a u b)) []:=by
 have c1:=at_ok' x t a h
 have c2:=at_ok' x u b h'
 unfold conflict
 obtain ⟨X,hX⟩ : ∃ X,dX x=X:=⟨_,rfl⟩
 rw [hX] at c1 c2 ⊢
 obtain ⟨v,hv⟩ : ∃ v,(acc x t a).1=v:=⟨_,rfl⟩
 obtain ⟨v',hv'⟩ : ∃ v,(acc x u b).1=v:=⟨_,rfl⟩
 obtain ⟨p,hp⟩ : ∃ v,(acc x t a).2=v:=⟨_,rfl⟩
 obtain ⟨p',hp'⟩ : ∃ v,(acc x u b).2=v:=⟨_,rfl⟩
 rw [hv,hp] at c1 ⊢
 rw [hv',hp'] at c2 ⊢
 refine ACall.enter hT (fn:=Try.f63) Try.func63 rfl (by decide) (by simp [Try.f63]) rfl rfl rfl rfl (Nat.le_refl _) ?_
 refine AWp.reg {} hT (fun A hA=>by cbv) (Nat.zero_le _) ?_
 refine AWp.seq (AWp.regionDraw rfl (Nat.zero_le _) (DOps.stepCall hT (an:={}) rfl (fun A hA=>by cbv) rfl rfl (Nat.le_of_ble_eq_true rfl) rfl rfl c1 ?_))
 refine DOps.stepCall hT (an:={}) rfl (fun A hA=>by cbv) rfl rfl (Nat.le_of_ble_eq_true rfl) rfl rfl c2 ?_
 refine DOps.done hT (an:={}) rfl (fun A hA=>by cbv) (by kernel_rfl) ?_
 by_cases e1:t=u
 ·refine AWp.reg {} hT (fun A hA=>by
   have f1:=ar_eq hA e1
   repeat (cbv;simp only [f1])
   cbv) (Nat.zero_le _) ?_
  refine AWp.ret ⟨?_,rfl,rfl,Nat.zero_le _,[],rfl⟩
  simp [e1]
  rfl
 ·by_cases e2:v=v'
  ·cases p with
   | true =>
     refine AWp.reg {} hT (fun A hA=>by
      have f1:=ar_ne hA e1
      have f2:=ar_eq hA e2
      repeat (cbv;simp only [f1,f2])
      cbv) (Nat.zero_le _) ?_
     refine AWp.ret ⟨?_,rfl,rfl,Nat.zero_le _,[],rfl⟩
     simp [e1,e2]
     rfl
   | false =>
     cases p' <;> (
     refine AWp.reg {} hT (fun A hA=>by
      have f1:=ar_ne hA e1
      have f2:=ar_eq hA e2
      repeat (cbv;simp only [f1,f2])
      cbv) (Nat.zero_le _) ?_
     refine AWp.ret ⟨?_,rfl,rfl,Nat.zero_le _,[],rfl⟩
     simp [e1,e2]
     rfl)
  ·refine AWp.reg {} hT (fun A hA=>by
    have f1:=ar_ne hA e1
    have f2:=ar_ne hA e2
    repeat (cbv;simp only [f1,f2])
    cbv) (Nat.zero_le _) ?_
   refine AWp.ret ⟨?_,rfl,rfl,Nat.zero_le _,[],rfl⟩
   simp [e1,e2]
   rfl
abbrev Sta:=Int×Int×Int
def dSta (s:Sta):D := .agg [I s.1,I s.2.1,I s.2.2]
def isPair (x:List (List Acc)) (s:Sta):Bool:=decide (s.2.1<s.2.2)&&there x s.1 s.2.1&&there x s.1 s.2.2&&decide ((acc x s.1 s.2.1).1≠(acc x s.1 s.2.2).1)
theorem isPair_ok (x:List (List Acc)) (s:Sta) (hx:Small x):ACall P 84 [.d (dX x),.d (dSta s)] [] (AB (isPair x s)) []:=by
 obtain ⟨t,a,b⟩:=s
 have ci:=in_ok t a b
 have co:=out_ok t a b
 have t1:=there_ok x t a hx
 have t2:=there_ok x t b hx
 have a1:=at_ok' x t a
 have a2:=at_ok' x t b
 show ACall P 84 [.d (dX x),.d (.agg [I t,I a,I b])] [] _ []
 unfold isPair
 simp only
 obtain ⟨X,hX⟩ : ∃ X,dX x=X:=⟨_,rfl⟩
 rw [hX] at t1 t2 a1 a2 ⊢
 obtain ⟨v,hv⟩ : ∃ v,(acc x t a).1=v:=⟨_,rfl⟩
 obtain ⟨v',hv'⟩ : ∃ v,(acc x t b).1=v:=⟨_,rfl⟩
 obtain ⟨p,hp⟩ : ∃ v,(acc x t a).2=v:=⟨_,rfl⟩
 obtain ⟨p',hp'⟩ : ∃ v,(acc x t b).2=v:=⟨_,rfl⟩
 rw [hv,hp] at a1
 rw [hv',hp'] at a2
 rw [hv,hv']
 refine ACall.enter hT (fn:=Try.f84) Try.func84 rfl (by decide) (by simp [Try.f84]) rfl rfl rfl rfl (Nat.le_refl _) ?_
 refine AWp.reg {} hT (fun A hA=>by cbv) (Nat.zero_le _) ?_
 by_cases e1:a<b
 ·refine AWp.seq (AWp.regionDraw rfl (Nat.zero_le _) (DOps.stepCall hT (an:={}) rfl (fun A hA=>by
    have f1:=ar_lt hA e1
    repeat (cbv;simp only [f1])
    cbv) rfl rfl (Nat.le_of_ble_eq_true rfl) rfl rfl ci ?_))
  refine DOps.stepCall hT (an:={}) rfl (fun A hA=>by cbv) rfl rfl (Nat.le_of_ble_eq_true rfl) rfl rfl t1 ?_
  cases h1:there x t a with
  | false =>
    refine DOps.done hT (an:={}) rfl (fun A hA=>by cbv) (by kernel_rfl) ?_
    refine AWp.ret ⟨?_,rfl,rfl,Nat.zero_le _,[],rfl⟩
    simp;rfl
  | true =>
    refine DOps.stepCall hT (an:={}) rfl (fun A hA=>by cbv) rfl rfl (Nat.le_of_ble_eq_true rfl) rfl rfl co ?_
    refine DOps.stepCall hT (an:={}) rfl (fun A hA=>by cbv) rfl rfl (Nat.le_of_ble_eq_true rfl) rfl rfl t2 ?_
    cases h2:there x t b with
    | false =>
      refine DOps.done hT (an:={}) rfl (fun A hA=>by cbv) (by kernel_rfl) ?_
      refine AWp.ret ⟨?_,rfl,rfl,Nat.zero_le _,[],rfl⟩
      simp;rfl
    | true =>
      refine DOps.stepCall hT (an:={}) rfl (fun A hA=>by cbv) rfl rfl (Nat.le_of_ble_eq_true rfl) rfl rfl ci ?_
      refine DOps.stepCall hT (an:={}) rfl (fun A hA=>by cbv) rfl rfl (Nat.le_of_ble_eq_true rfl) rfl rfl (a1 h1) ?_
      refine DOps.stepCall hT (an:={}) rfl (fun A hA=>by cbv) rfl rfl (Nat.le_of_ble_eq_true rfl) rfl rfl co ?_
      refine DOps.stepCall hT (an:={}) rfl (fun A hA=>by cbv) rfl rfl (Nat.le_of_ble_eq_true rfl) rfl rfl (a2 h2) ?_
      by_cases e2:v=v'
      ·refine DOps.done hT (an:={}) rfl (fun A hA=>by
        have f1:=ar_eq hA e2
        repeat (cbv;simp only [f1])
        cbv) (by kernel_rfl) ?_
       refine AWp.ret ⟨?_,rfl,rfl,Nat.zero_le _,[],rfl⟩
       simp [e2];rfl
      ·refine DOps.done hT (an:={}) rfl (fun A hA=>by
        have f1:=ar_ne hA e2
        repeat (cbv;simp only [f1])
        cbv) (by kernel_rfl) ?_
       refine AWp.ret ⟨?_,rfl,rfl,Nat.zero_le _,[],rfl⟩
       simp [e1,e2];rfl
 ·refine AWp.seq (AWp.regionDraw rfl (Nat.zero_le _) (DOps.done hT (an:={}) rfl (fun A hA=>by
    have f1:=ar_nlt hA e1
    repeat (cbv;simp only [f1])
    cbv) (by kernel_rfl) ?_))
  refine AWp.ret ⟨?_,rfl,rfl,Nat.zero_le _,[],rfl⟩
  simp [e1];rfl
end Go.Am

namespace Go.Am
open Go Go.Proofs
theorem ar_fits {A:Ar} (hA:A=Ar.std) (l m:List D) (h:l.length+m.length<4294967296):A.fits (A.zadd (A.len l) (A.len m))=true:=by
 subst hA;simp only [Ar.std];simp;omega
theorem ar_app {A:Ar} (hA:A=Ar.std) (l m r:List D) (h:l++m=r):A.app l m=r:=by subst hA;exact h
end Go.Am

namespace Go.Am
open Go Go.Proofs
theorem index22 (x:List (List Acc)) (hx:x.length<=9223372036854775807) (f:FuncId) (bs:List AV) (H:List Obj) (p:List Acc->Bool) (hin:objsInb H.length H=true) (hbs:inbL H.length bs=true) (hbf:bs.all AV.free=true)
  (hp : ∀ l∈x,ACall P f (.d (dAccs l)::bs) H (AB (p l)) H) : ∃ r:Int,(decide (0<=r)=x.any p)/\ACall P 114 [.d (.list 1 (x.map dAccs)),.func f [] bs] H (AI r) H:=by
 refine ⟨match x.findIdx? p with | some i=>(i:Int) | none => -1,?_,?_⟩
 ·cases h:x.findIdx? p with
  | none =>
    rw [List.findIdx?_eq_none_iff] at h
    have:x.any p=false:=List.any_eq_false.2 (fun y hy=>by rw [h y hy];exact Bool.false_ne_true)
    rw [this];rfl
  | some i =>
    obtain ⟨h1,h2,_⟩:=List.findIdx?_eq_some_iff_getElem.1 h
    have:x.any p=true:=List.any_eq_true.2 ⟨_,zp6 h1,h2⟩
    rw [this];simp
 obtain ⟨X,hX⟩ : ∃ X,x.map dAccs=X:=⟨_,rfl⟩
 obtain ⟨n,hn⟩ : ∃ n:Int,(X.length:Int)=n:=⟨_,rfl⟩
 have hxl:(x.length:Int)=n:=by rw [<-hn,<-hX];simp
 rw [hX]
 refine ACall.enter hT (fn:=Try.f114) Try.func114 rfl (by decide) (by simp [Try.f114]) rfl rfl rfl hin (Nat.le_refl _) ?_
 repeat refine AWp.seq ?_
 refine AWp.reg1 {} hT (fun A hA=>by cbv) (Nat.le_refl _) ?_
 try dsimp only [AExit.then,AExit.block]
 repeat refine AWp.seq ?_
 refine AWp.reg1 {} hT (fun A hA=>by
   have f0:=ar_len hA X n hn
   repeat (cbv;simp only [f0])
   cbv) (Nat.le_refl _) ?_
 try dsimp only [AExit.then,AExit.block]
 refine AWp.block (AWp.loopInv (ι:=Int) (fun z=>0<=z/\z<=n /\ ∀ l∈x.take z.toNat,p l=false) (fun z=>(n-z).toNat) [0,1,6,7,8]
  (fun z=>{ env:=[(0,.d (.list 1 X)),(1,.func f [] bs),(6,.d (.list 1 X)),(7,AI n),(8,AI z)],heap:=H,n:=19 }) 0 (by cbv) ⟨Int.le_refl _,by omega,by simp⟩ ?_)
 rintro z ⟨h0,h1,h2⟩
 by_cases hz:z<n
 ·obtain ⟨L,hL⟩ : ∃ L,x[z.toNat]?=some L:=⟨_,zp1 (by omega)⟩
  have hLm:=hp L (List.mem_of_getElem? hL)
  have hXt:X[z.toNat]?=some (dAccs L):=by rw [<-hX,List.getElem?_map,hL];rfl
  obtain ⟨b,hb⟩ : ∃ b,p L=b:=⟨_,rfl⟩
  rw [hb] at hLm

  obtain ⟨L1,hL1⟩ : ∃ L1,L.map dAcc=L1:=⟨_,rfl⟩
  unfold dAccs at hXt hLm
  rw [hL1] at hXt hLm
  obtain ⟨z1,hz1⟩ : ∃ z1,z+1=z1:=⟨_,rfl⟩
  repeat refine AWp.seq ?_
  refine AWp.reg1 {} hT (fun A hA=>by
    have f0:=ar_lt hA hz
    repeat (cbv;simp only [f0])
    cbv) (Nat.le_refl _) ?_
  try dsimp only [AExit.then,AExit.block]
  repeat refine AWp.seq ?_
  refine AWp.cond (b:=true) rfl (AWp.skip ?_)
  try dsimp only [AExit.then,AExit.block]
  repeat refine AWp.seq ?_
  refine AWp.block ?_
  repeat refine AWp.seq ?_
  refine AWp.reg1 {} hT (fun A hA=>by cbv) (Nat.le_refl _) ?_
  try dsimp only [AExit.then,AExit.block]
  repeat refine AWp.seq ?_
  refine AWp.region ?_
  refine AOps.stepCallW hT (an:={}) (fun A hA=>by
    have f0:=ar_get hA hXt
    have f1:=ar_le hA h0
    repeat (cbv;simp only [f0,f1])
    cbv) (Nat.le_refl _) (by first | rfl | exact hin) (by first | rfl | simp [inbL,AV.inb,hbs]) rfl (Nat.le_of_ble_eq_true rfl) rfl (by first | rfl | simp [AV.free,hbf]) (hLm) ?_
  refine AOps.done hT (an:={}) (fun A hA=>by cbv) (Nat.le_refl _) ?_
  try dsimp only [AExit.then,AExit.block]
  cases b with
  | true =>
    repeat refine AWp.seq ?_
    refine AWp.cond (b:=true) rfl ?_
    rw [if_pos rfl]
    repeat refine AWp.seq ?_
    refine AWp.reg1 {} hT (fun A hA=>by cbv) (Nat.le_refl _) ?_
    try dsimp only [AExit.then,AExit.block]
    refine AWp.ret ⟨?_,rfl,hin,Nat.le_refl _,[],by simp⟩
    have:x.findIdx? p=some z.toNat:=by
     rw [List.findIdx?_eq_some_iff_getElem]
     refine ⟨by omega,?_,fun j hj => ?_⟩
     ·rw [zp1 (by omega)] at hL;injection hL with hL;rw [hL];exact hb
     ·have:=h2 x[j] (by rw [List.mem_take_iff_getElem];exact ⟨j,by omega,rfl⟩)
      simp [this]
    rw [this]
    show _=some (AI (z.toNat:Int))
    rw [show (z.toNat:Int)=z by omega]
    rfl
  | false =>
    repeat refine AWp.seq ?_
    refine AWp.cond (b:=false) rfl (AWp.skip ?_)
    try dsimp only [AExit.then,AExit.block]
    repeat refine AWp.seq ?_
    refine AWp.reg1 {} hT (fun A hA=>by
      have f0:=ar_add hA z 1 z1 hz1 (by omega) (by omega)
      repeat (cbv;simp only [f0])
      cbv) (Nat.le_refl _) ?_
    try dsimp only [AExit.then,AExit.block]
    refine ⟨z1,⟨by omega,by omega,?_⟩,by omega,by cbv⟩
    intro l hl
    rw [show z1.toNat=z.toNat+1 by omega,List.take_add_one,hL] at hl
    simp at hl
    rcases hl with hl | rfl
    ·exact h2 l hl
    ·exact hb
 ·repeat refine AWp.seq ?_
  refine AWp.reg1 {} hT (fun A hA=>by
    have f0:=ar_nlt hA hz
    repeat (cbv;simp only [f0])
    cbv) (Nat.le_refl _) ?_
  try dsimp only [AExit.then,AExit.block]
  repeat refine AWp.seq ?_
  refine AWp.cond (b:=false) rfl (AWp.exit ?_)
  try dsimp only [AExit.then,AExit.block]
  rw [if_pos rfl]
  repeat refine AWp.seq ?_
  refine AWp.reg1 {} hT (fun A hA=>by cbv) (Nat.le_refl _) ?_
  try dsimp only [AExit.then,AExit.block]
  refine AWp.ret ⟨?_,rfl,hin,Nat.le_refl _,[],by simp⟩
  have:x.findIdx? p=none:=by
   rw [List.findIdx?_eq_none_iff]
   intro y hy
   exact h2 y (by rw [List.take_of_length_le (by omega)];exact hy)
  rw [this]
  rfl
theorem contains22 (x:List (List Acc)) (hx:x.length<=9223372036854775807) (f:FuncId) (bs:List AV) (H:List Obj) (p:List Acc->Bool) (hin:objsInb H.length H=true) (hbs:inbL H.length bs=true) (hbf:bs.all AV.free=true)
  (hp : ∀ l∈x,ACall P f (.d (dAccs l)::bs) H (AB (p l)) H):ACall P 68 [.d (.list 1 (x.map dAccs)),.func f [] bs] H (AB (x.any p)) H:=by
 obtain ⟨r,hr,hc⟩:=index22 x hx f bs H p hin hbs hbf hp
 obtain ⟨b,hb⟩ : ∃ b,x.any p=b:=⟨_,rfl⟩
 rw [hb] at hr ⊢
 obtain ⟨X,hX⟩ : ∃ X,x.map dAccs=X:=⟨_,rfl⟩
 rw [hX] at hc ⊢
 refine ACall.enter hT (fn:=Try.f68) Try.func68 rfl (by decide) (by simp [Try.f68]) rfl rfl rfl hin (Nat.le_refl _) ?_
 repeat refine AWp.seq ?_
 refine AWp.reg1 {} hT (fun A hA=>by cbv) (Nat.le_refl _) ?_
 try dsimp only [AExit.then,AExit.block]
 repeat refine AWp.seq ?_
 refine AWp.region ?_
 refine AOps.stepCallW hT (an:={}) (fun A hA=>by cbv) (Nat.le_refl _) (by first | rfl | exact hin) (by first | rfl | simp [inbL,AV.inb,hbs]) rfl (Nat.le_of_ble_eq_true rfl) rfl (by first | rfl | simp [AV.free,hbf]) (hc) ?_
 have hrb : ∀ A:Ar,A=Ar.std->A.zle 0 r=b:=fun A hA=>by subst hA;exact hr
 refine AOps.done hT (an:={}) (fun A hA=>by
   have f0:=hrb A hA
   repeat (cbv;simp only [f0])
   cbv) (Nat.le_refl _) ?_
 try dsimp only [AExit.then,AExit.block]
 refine AWp.ret ⟨rfl,rfl,hin,Nat.le_refl _,[],by simp⟩
theorem index25 (x:List (Acc)) (hx:x.length<=9223372036854775807) (f:FuncId) (bs:List AV) (H:List Obj) (p:Acc->Bool) (hin:objsInb H.length H=true) (hbs:inbL H.length bs=true) (hbf:bs.all AV.free=true)
  (hp : ∀ l∈x,ACall P f (.d (dAcc l)::bs) H (AB (p l)) H) : ∃ r:Int,(decide (0<=r)=x.any p)/\ACall P 115 [.d (.list 2 (x.map dAcc)),.func f [] bs] H (AI r) H:=by
 refine ⟨match x.findIdx? p with | some i=>(i:Int) | none => -1,?_,?_⟩
 ·cases h:x.findIdx? p with
  | none =>
    rw [List.findIdx?_eq_none_iff] at h
    have:x.any p=false:=List.any_eq_false.2 (fun y hy=>by rw [h y hy];exact Bool.false_ne_true)
    rw [this];rfl
  | some i =>
    obtain ⟨h1,h2,_⟩:=List.findIdx?_eq_some_iff_getElem.1 h
    have:x.any p=true:=List.any_eq_true.2 ⟨_,zp6 h1,h2⟩
    rw [this];simp
 obtain ⟨X,hX⟩ : ∃ X,x.map dAcc=X:=⟨_,rfl⟩
 obtain ⟨n,hn⟩ : ∃ n:Int,(X.length:Int)=n:=⟨_,rfl⟩
 have hxl:(x.length:Int)=n:=by rw [<-hn,<-hX];simp
 rw [hX]
 refine ACall.enter hT (fn:=Try.f115) Try.func115 rfl (by decide) (by simp [Try.f115]) rfl rfl rfl hin (Nat.le_refl _) ?_
 repeat refine AWp.seq ?_
 refine AWp.reg1 {} hT (fun A hA=>by cbv) (Nat.le_refl _) ?_
 try dsimp only [AExit.then,AExit.block]
 repeat refine AWp.seq ?_
 refine AWp.reg1 {} hT (fun A hA=>by
   have f0:=ar_len hA X n hn
   repeat (cbv;simp only [f0])
   cbv) (Nat.le_refl _) ?_
 try dsimp only [AExit.then,AExit.block]
 refine AWp.block (AWp.loopInv (ι:=Int) (fun z=>0<=z/\z<=n /\ ∀ l∈x.take z.toNat,p l=false) (fun z=>(n-z).toNat) [0,1,6,7,8]
  (fun z=>{ env:=[(0,.d (.list 2 X)),(1,.func f [] bs),(6,.d (.list 2 X)),(7,AI n),(8,AI z)],heap:=H,n:=19 }) 0 (by cbv) ⟨Int.le_refl _,by omega,by simp⟩ ?_)
 rintro z ⟨h0,h1,h2⟩
 by_cases hz:z<n
 ·obtain ⟨L,hL⟩ : ∃ L,x[z.toNat]?=some L:=⟨_,zp1 (by omega)⟩
  have hLm:=hp L (List.mem_of_getElem? hL)
  have hXt:X[z.toNat]?=some (dAcc L):=by rw [<-hX,List.getElem?_map,hL];rfl
  obtain ⟨b,hb⟩ : ∃ b,p L=b:=⟨_,rfl⟩
  rw [hb] at hLm

  obtain ⟨v,w⟩:=L
  unfold dAcc at hXt hLm
  dsimp only at hXt hLm
  obtain ⟨z1,hz1⟩ : ∃ z1,z+1=z1:=⟨_,rfl⟩
  repeat refine AWp.seq ?_
  refine AWp.reg1 {} hT (fun A hA=>by
    have f0:=ar_lt hA hz
    repeat (cbv;simp only [f0])
    cbv) (Nat.le_refl _) ?_
  try dsimp only [AExit.then,AExit.block]
  repeat refine AWp.seq ?_
  refine AWp.cond (b:=true) rfl (AWp.skip ?_)
  try dsimp only [AExit.then,AExit.block]
  repeat refine AWp.seq ?_
  refine AWp.block ?_
  repeat refine AWp.seq ?_
  refine AWp.reg1 {} hT (fun A hA=>by cbv) (Nat.le_refl _) ?_
  try dsimp only [AExit.then,AExit.block]
  repeat refine AWp.seq ?_
  refine AWp.region ?_
  refine AOps.stepCallW hT (an:={}) (fun A hA=>by
    have f0:=ar_get hA hXt
    have f1:=ar_le hA h0
    repeat (cbv;simp only [f0,f1])
    cbv) (Nat.le_refl _) (by first | rfl | exact hin) (by first | rfl | simp [inbL,AV.inb,hbs]) rfl (Nat.le_of_ble_eq_true rfl) rfl (by first | rfl | simp [AV.free,hbf]) (hLm) ?_
  refine AOps.done hT (an:={}) (fun A hA=>by cbv) (Nat.le_refl _) ?_
  try dsimp only [AExit.then,AExit.block]
  cases b with
  | true =>
    repeat refine AWp.seq ?_
    refine AWp.cond (b:=true) rfl ?_
    rw [if_pos rfl]
    repeat refine AWp.seq ?_
    refine AWp.reg1 {} hT (fun A hA=>by cbv) (Nat.le_refl _) ?_
    try dsimp only [AExit.then,AExit.block]
    refine AWp.ret ⟨?_,rfl,hin,Nat.le_refl _,[],by simp⟩
    have:x.findIdx? p=some z.toNat:=by
     rw [List.findIdx?_eq_some_iff_getElem]
     refine ⟨by omega,?_,fun j hj => ?_⟩
     ·rw [zp1 (by omega)] at hL;injection hL with hL;rw [hL];exact hb
     ·have:=h2 x[j] (by rw [List.mem_take_iff_getElem];exact ⟨j,by omega,rfl⟩)
      simp [this]
    rw [this]
    show _=some (AI (z.toNat:Int))
    rw [show (z.toNat:Int)=z by omega]
    rfl
  | false =>
    repeat refine AWp.seq ?_
    refine AWp.cond (b:=false) rfl (AWp.skip ?_)
    try dsimp only [AExit.then,AExit.block]
    repeat refine AWp.seq ?_
    refine AWp.reg1 {} hT (fun A hA=>by
      have f0:=ar_add hA z 1 z1 hz1 (by omega) (by omega)
      repeat (cbv;simp only [f0])
      cbv) (Nat.le_refl _) ?_
    try dsimp only [AExit.then,AExit.block]
    refine ⟨z1,⟨by omega,by omega,?_⟩,by omega,by cbv⟩
    intro l hl
    rw [show z1.toNat=z.toNat+1 by omega,List.take_add_one,hL] at hl
    simp at hl
    rcases hl with hl | rfl
    ·exact h2 l hl
    ·exact hb
 ·repeat refine AWp.seq ?_
  refine AWp.reg1 {} hT (fun A hA=>by
    have f0:=ar_nlt hA hz
    repeat (cbv;simp only [f0])
    cbv) (Nat.le_refl _) ?_
  try dsimp only [AExit.then,AExit.block]
  repeat refine AWp.seq ?_
  refine AWp.cond (b:=false) rfl (AWp.exit ?_)
  try dsimp only [AExit.then,AExit.block]
  rw [if_pos rfl]
  repeat refine AWp.seq ?_
  refine AWp.reg1 {} hT (fun A hA=>by cbv) (Nat.le_refl _) ?_
  try dsimp only [AExit.then,AExit.block]
  refine AWp.ret ⟨?_,rfl,hin,Nat.le_refl _,[],by simp⟩
  have:x.findIdx? p=none:=by
   rw [List.findIdx?_eq_none_iff]
   intro y hy
   exact h2 y (by rw [List.take_of_length_le (by omega)];exact hy)
  rw [this]
  rfl
theorem contains25 (x:List (Acc)) (hx:x.length<=9223372036854775807) (f:FuncId) (bs:List AV) (H:List Obj) (p:Acc->Bool) (hin:objsInb H.length H=true) (hbs:inbL H.length bs=true) (hbf:bs.all AV.free=true)
  (hp : ∀ l∈x,ACall P f (.d (dAcc l)::bs) H (AB (p l)) H):ACall P 70 [.d (.list 2 (x.map dAcc)),.func f [] bs] H (AB (x.any p)) H:=by
 obtain ⟨r,hr,hc⟩:=index25 x hx f bs H p hin hbs hbf hp
 obtain ⟨b,hb⟩ : ∃ b,x.any p=b:=⟨_,rfl⟩
 rw [hb] at hr ⊢
 obtain ⟨X,hX⟩ : ∃ X,x.map dAcc=X:=⟨_,rfl⟩
 rw [hX] at hc ⊢
 refine ACall.enter hT (fn:=Try.f70) Try.func70 rfl (by decide) (by simp [Try.f70]) rfl rfl rfl hin (Nat.le_refl _) ?_
 repeat refine AWp.seq ?_
 refine AWp.reg1 {} hT (fun A hA=>by cbv) (Nat.le_refl _) ?_
 try dsimp only [AExit.then,AExit.block]
 repeat refine AWp.seq ?_
 refine AWp.region ?_
 refine AOps.stepCallW hT (an:={}) (fun A hA=>by cbv) (Nat.le_refl _) (by first | rfl | exact hin) (by first | rfl | simp [inbL,AV.inb,hbs]) rfl (Nat.le_of_ble_eq_true rfl) rfl (by first | rfl | simp [AV.free,hbf]) (hc) ?_
 have hrb : ∀ A:Ar,A=Ar.std->A.zle 0 r=b:=fun A hA=>by subst hA;exact hr
 refine AOps.done hT (an:={}) (fun A hA=>by
   have f0:=hrb A hA
   repeat (cbv;simp only [f0])
   cbv) (Nat.le_refl _) ?_
 try dsimp only [AExit.then,AExit.block]
 refine AWp.ret ⟨rfl,rfl,hin,Nat.le_refl _,[],by simp⟩
theorem index98 (x:List (Sta)) (hx:x.length<=9223372036854775807) (f:FuncId) (bs:List AV) (H:List Obj) (p:Sta->Bool) (hin:objsInb H.length H=true) (hbs:inbL H.length bs=true) (hbf:bs.all AV.free=true)
  (hp : ∀ l∈x,ACall P f (.d (dSta l)::bs) H (AB (p l)) H) : ∃ r:Int,(decide (0<=r)=x.any p)/\ACall P 122 [.d (.list 3 (x.map dSta)),.func f [] bs] H (AI r) H:=by
 refine ⟨match x.findIdx? p with | some i=>(i:Int) | none => -1,?_,?_⟩
 ·cases h:x.findIdx? p with
  | none =>
    rw [List.findIdx?_eq_none_iff] at h
    have:x.any p=false:=List.any_eq_false.2 (fun y hy=>by rw [h y hy];exact Bool.false_ne_true)
    rw [this];rfl
  | some i =>
    obtain ⟨h1,h2,_⟩:=List.findIdx?_eq_some_iff_getElem.1 h
    have:x.any p=true:=List.any_eq_true.2 ⟨_,zp6 h1,h2⟩
    rw [this];simp
 obtain ⟨X,hX⟩ : ∃ X,x.map dSta=X:=⟨_,rfl⟩
 obtain ⟨n,hn⟩ : ∃ n:Int,(X.length:Int)=n:=⟨_,rfl⟩
 have hxl:(x.length:Int)=n:=by rw [<-hn,<-hX];simp
 rw [hX]
 refine ACall.enter hT (fn:=Try.f122) Try.func122 rfl (by decide) (by simp [Try.f122]) rfl rfl rfl hin (Nat.le_refl _) ?_
 repeat refine AWp.seq ?_
 refine AWp.reg1 {} hT (fun A hA=>by cbv) (Nat.le_refl _) ?_
 try dsimp only [AExit.then,AExit.block]
 repeat refine AWp.seq ?_
 refine AWp.reg1 {} hT (fun A hA=>by
   have f0:=ar_len hA X n hn
   repeat (cbv;simp only [f0])
   cbv) (Nat.le_refl _) ?_
 try dsimp only [AExit.then,AExit.block]
 refine AWp.block (AWp.loopInv (ι:=Int) (fun z=>0<=z/\z<=n /\ ∀ l∈x.take z.toNat,p l=false) (fun z=>(n-z).toNat) [0,1,6,7,8]
  (fun z=>{ env:=[(0,.d (.list 3 X)),(1,.func f [] bs),(6,.d (.list 3 X)),(7,AI n),(8,AI z)],heap:=H,n:=19 }) 0 (by cbv) ⟨Int.le_refl _,by omega,by simp⟩ ?_)
 rintro z ⟨h0,h1,h2⟩
 by_cases hz:z<n
 ·obtain ⟨L,hL⟩ : ∃ L,x[z.toNat]?=some L:=⟨_,zp1 (by omega)⟩
  have hLm:=hp L (List.mem_of_getElem? hL)
  have hXt:X[z.toNat]?=some (dSta L):=by rw [<-hX,List.getElem?_map,hL];rfl
  obtain ⟨b,hb⟩ : ∃ b,p L=b:=⟨_,rfl⟩
  rw [hb] at hLm

  obtain ⟨t,a,c⟩:=L
  unfold dSta at hXt hLm
  dsimp only at hXt hLm
  obtain ⟨z1,hz1⟩ : ∃ z1,z+1=z1:=⟨_,rfl⟩
  repeat refine AWp.seq ?_
  refine AWp.reg1 {} hT (fun A hA=>by
    have f0:=ar_lt hA hz
    repeat (cbv;simp only [f0])
    cbv) (Nat.le_refl _) ?_
  try dsimp only [AExit.then,AExit.block]
  repeat refine AWp.seq ?_
  refine AWp.cond (b:=true) rfl (AWp.skip ?_)
  try dsimp only [AExit.then,AExit.block]
  repeat refine AWp.seq ?_
  refine AWp.block ?_
  repeat refine AWp.seq ?_
  refine AWp.reg1 {} hT (fun A hA=>by cbv) (Nat.le_refl _) ?_
  try dsimp only [AExit.then,AExit.block]
  repeat refine AWp.seq ?_
  refine AWp.region ?_
  refine AOps.stepCallW hT (an:={}) (fun A hA=>by
    have f0:=ar_get hA hXt
    have f1:=ar_le hA h0
    repeat (cbv;simp only [f0,f1])
    cbv) (Nat.le_refl _) (by first | rfl | exact hin) (by first | rfl | simp [inbL,AV.inb,hbs]) rfl (Nat.le_of_ble_eq_true rfl) rfl (by first | rfl | simp [AV.free,hbf]) (hLm) ?_
  refine AOps.done hT (an:={}) (fun A hA=>by cbv) (Nat.le_refl _) ?_
  try dsimp only [AExit.then,AExit.block]
  cases b with
  | true =>
    repeat refine AWp.seq ?_
    refine AWp.cond (b:=true) rfl ?_
    rw [if_pos rfl]
    repeat refine AWp.seq ?_
    refine AWp.reg1 {} hT (fun A hA=>by cbv) (Nat.le_refl _) ?_
    try dsimp only [AExit.then,AExit.block]
    refine AWp.ret ⟨?_,rfl,hin,Nat.le_refl _,[],by simp⟩
    have:x.findIdx? p=some z.toNat:=by
     rw [List.findIdx?_eq_some_iff_getElem]
     refine ⟨by omega,?_,fun j hj => ?_⟩
     ·rw [zp1 (by omega)] at hL;injection hL with hL;rw [hL];exact hb
     ·have:=h2 x[j] (by rw [List.mem_take_iff_getElem];exact ⟨j,by omega,rfl⟩)
      simp [this]
    rw [this]
    show _=some (AI (z.toNat:Int))
    rw [show (z.toNat:Int)=z by omega]
    rfl
  | false =>
    repeat refine AWp.seq ?_
    refine AWp.cond (b:=false) rfl (AWp.skip ?_)
    try dsimp only [AExit.then,AExit.block]
    repeat refine AWp.seq ?_
    refine AWp.reg1 {} hT (fun A hA=>by
      have f0:=ar_add hA z 1 z1 hz1 (by omega) (by omega)
      repeat (cbv;simp only [f0])
      cbv) (Nat.le_refl _) ?_
    try dsimp only [AExit.then,AExit.block]
    refine ⟨z1,⟨by omega,by omega,?_⟩,by omega,by cbv⟩
    intro l hl
    rw [show z1.toNat=z.toNat+1 by omega,List.take_add_one,hL] at hl
    simp at hl
    rcases hl with hl | rfl
    ·exact h2 l hl
    ·exact hb
 ·repeat refine AWp.seq ?_
  refine AWp.reg1 {} hT (fun A hA=>by
    have f0:=ar_nlt hA hz
    repeat (cbv;simp only [f0])
    cbv) (Nat.le_refl _) ?_
  try dsimp only [AExit.then,AExit.block]
  repeat refine AWp.seq ?_
  refine AWp.cond (b:=false) rfl (AWp.exit ?_)
  try dsimp only [AExit.then,AExit.block]
  rw [if_pos rfl]
  repeat refine AWp.seq ?_
  refine AWp.reg1 {} hT (fun A hA=>by cbv) (Nat.le_refl _) ?_
  try dsimp only [AExit.then,AExit.block]
  refine AWp.ret ⟨?_,rfl,hin,Nat.le_refl _,[],by simp⟩
  have:x.findIdx? p=none:=by
   rw [List.findIdx?_eq_none_iff]
   intro y hy
   exact h2 y (by rw [List.take_of_length_le (by omega)];exact hy)
  rw [this]
  rfl
theorem contains98 (x:List (Sta)) (hx:x.length<=9223372036854775807) (f:FuncId) (bs:List AV) (H:List Obj) (p:Sta->Bool) (hin:objsInb H.length H=true) (hbs:inbL H.length bs=true) (hbf:bs.all AV.free=true)
  (hp : ∀ l∈x,ACall P f (.d (dSta l)::bs) H (AB (p l)) H):ACall P 119 [.d (.list 3 (x.map dSta)),.func f [] bs] H (AB (x.any p)) H:=by
 obtain ⟨r,hr,hc⟩:=index98 x hx f bs H p hin hbs hbf hp
 obtain ⟨b,hb⟩ : ∃ b,x.any p=b:=⟨_,rfl⟩
 rw [hb] at hr ⊢
 obtain ⟨X,hX⟩ : ∃ X,x.map dSta=X:=⟨_,rfl⟩
 rw [hX] at hc ⊢
 refine ACall.enter hT (fn:=Try.f119) Try.func119 rfl (by decide) (by simp [Try.f119]) rfl rfl rfl hin (Nat.le_refl _) ?_
 repeat refine AWp.seq ?_
 refine AWp.reg1 {} hT (fun A hA=>by cbv) (Nat.le_refl _) ?_
 try dsimp only [AExit.then,AExit.block]
 repeat refine AWp.seq ?_
 refine AWp.region ?_
 refine AOps.stepCallW hT (an:={}) (fun A hA=>by cbv) (Nat.le_refl _) (by first | rfl | exact hin) (by first | rfl | simp [inbL,AV.inb,hbs]) rfl (Nat.le_of_ble_eq_true rfl) rfl (by first | rfl | simp [AV.free,hbf]) (hc) ?_
 have hrb : ∀ A:Ar,A=Ar.std->A.zle 0 r=b:=fun A hA=>by subst hA;exact hr
 refine AOps.done hT (an:={}) (fun A hA=>by
   have f0:=hrb A hA
   repeat (cbv;simp only [f0])
   cbv) (Nat.le_refl _) ?_
 try dsimp only [AExit.then,AExit.block]
 refine AWp.ret ⟨rfl,rfl,hin,Nat.le_refl _,[],by simp⟩
end Go.Am

namespace Go.Am
open Go Go.Proofs
def badAcc (a:Acc):Bool := !(decide (0<=a.1)&&decide (a.1<=2))
def badL (l:List Acc):Bool:=decide ((4:Int)<l.length)||l.any badAcc
def valid (x:List (List Acc)):Bool:=(decide ((1:Int)<=x.length)&&decide ((x.length:Int)<=3)) && !x.any badL
def Big (x:List (List Acc)):Prop:=x.length<=9223372036854775807 /\ ∀ l∈x,l.length<=9223372036854775807
theorem badAcc_ok (a:Acc):ACall P 71 [.d (dAcc a)] [] (AB (badAcc a)) []:=by
 obtain ⟨v,w⟩:=a
 unfold dAcc badAcc
 dsimp only
 obtain ⟨r,hr⟩ : ∃ r,(decide (0<=v)&&decide (v<=2))=r:=⟨_,rfl⟩
 rw [hr]
 refine ACall.enter hT (fn:=Try.f71) Try.func71 rfl (by decide) (by simp [Try.f71]) rfl rfl rfl rfl (Nat.le_refl _) ?_
 repeat refine AWp.seq ?_
 refine AWp.reg1 {} hT (fun A hA=>by cbv) (Nat.zero_le _) ?_
 try dsimp only [AExit.then,AExit.block]
 repeat refine AWp.seq ?_
 refine AWp.region ?_
 refine AOps.stepCall hT (an:={}) (fun A hA=>by cbv) (Nat.zero_le _) rfl (.inr rfl) rfl rfl rfl (Nat.le_of_ble_eq_true rfl) rfl rfl (between_ok' _ _ _ r hr) ?_
 refine AOps.done hT (an:={}) (fun A hA=>by cbv) (Nat.zero_le _) ?_
 try dsimp only [AExit.then,AExit.block]
 repeat refine AWp.seq ?_
 refine AWp.ret ⟨?_,rfl,rfl,Nat.zero_le _,_,rfl⟩
 rfl
theorem badL_ok (l:List Acc) (hl:l.length<=9223372036854775807):ACall P 69 [.d (dAccs l)] [] (AB (badL l)) []:=by
 have hc:=contains25 l hl 71 [] [] badAcc rfl rfl rfl (fun a _=>badAcc_ok a)
 unfold dAccs badL
 obtain ⟨L,hL⟩ : ∃ L,l.map dAcc=L:=⟨_,rfl⟩
 obtain ⟨n,hn⟩ : ∃ n:Int,(L.length:Int)=n:=⟨_,rfl⟩
 have hln:(l.length:Int)=n:=by rw [<-hn,<-hL];simp
 obtain ⟨r,hr⟩ : ∃ r,l.any badAcc=r:=⟨_,rfl⟩
 rw [hL,hr] at hc
 rw [hL,hr,hln]
 refine ACall.enter hT (fn:=Try.f69) Try.func69 rfl (by decide) (by simp [Try.f69]) rfl rfl rfl rfl (Nat.le_refl _) ?_
 repeat refine AWp.seq ?_
 refine AWp.reg1 {} hT (fun A hA=>by cbv) (Nat.zero_le _) ?_
 try dsimp only [AExit.then,AExit.block]
 by_cases h:4<n
 ·repeat refine AWp.seq ?_
  refine AWp.reg1 {} hT (fun A hA=>by
    have f0:=ar_len hA L n hn
    have f1:=ar_lt hA h
    repeat (cbv;simp only [f0,f1])
    cbv) (Nat.zero_le _) ?_
  try dsimp only [AExit.then,AExit.block]
  repeat refine AWp.seq ?_
  refine AWp.ret ⟨?_,rfl,rfl,Nat.zero_le _,_,rfl⟩
  simp [h];rfl
 ·repeat refine AWp.seq ?_
  refine AWp.region ?_
  refine AOps.stepCall hT (an:={}) (fun A hA=>by
    have f0:=ar_len hA L n hn
    have f1:=ar_nlt hA h
    repeat (cbv;simp only [f0,f1])
    cbv) (Nat.zero_le _) rfl (.inr rfl) rfl rfl rfl (Nat.le_of_ble_eq_true rfl) rfl rfl (hc) ?_
  refine AOps.done hT (an:={}) (fun A hA=>by cbv) (Nat.zero_le _) ?_
  try dsimp only [AExit.then,AExit.block]
  repeat refine AWp.seq ?_
  refine AWp.ret ⟨?_,rfl,rfl,Nat.zero_le _,_,rfl⟩
  simp [h];rfl
theorem valid_ok (x:List (List Acc)) (hx:Big x):ACall P 20 [.d (dX x)] [] (AB (valid x)) []:=by
 have hc:=contains22 x hx.1 69 [] [] badL rfl rfl rfl (fun a ha=>badL_ok a (hx.2 a ha))
 unfold dX valid
 obtain ⟨X,hX⟩ : ∃ X,x.map dAccs=X:=⟨_,rfl⟩
 obtain ⟨n,hn⟩ : ∃ n:Int,(X.length:Int)=n:=⟨_,rfl⟩
 have hxl:(x.length:Int)=n:=by rw [<-hn,<-hX];simp
 obtain ⟨r,hr⟩ : ∃ r,x.any badL=r:=⟨_,rfl⟩
 rw [hX,hr] at hc
 rw [hX,hr,hxl]
 refine ACall.enter hT (fn:=Try.f20) Try.func20 rfl (by decide) (by simp [Try.f20]) rfl rfl rfl rfl (Nat.le_refl _) ?_
 repeat refine AWp.seq ?_
 refine AWp.reg1 {} hT (fun A hA=>by cbv) (Nat.zero_le _) ?_
 try dsimp only [AExit.then,AExit.block]
 by_cases h:1<=n/\n<=3
 ·repeat refine AWp.seq ?_
  refine AWp.region ?_
  refine AOps.stepCall hT (an:={}) (fun A hA=>by
    have f0:=ar_len hA X n hn
    repeat (cbv;simp only [f0])
    cbv) (Nat.zero_le _) rfl (.inr rfl) rfl rfl rfl (Nat.le_of_ble_eq_true rfl) rfl rfl (between_ok' _ _ _ true (by simp;exact h)) ?_
  refine AOps.stepCall hT (an:={}) (fun A hA=>by cbv) (Nat.zero_le _) rfl (.inr rfl) rfl rfl rfl (Nat.le_of_ble_eq_true rfl) rfl rfl (hc) ?_
  refine AOps.done hT (an:={}) (fun A hA=>by cbv) (Nat.zero_le _) ?_
  try dsimp only [AExit.then,AExit.block]
  repeat refine AWp.seq ?_
  refine AWp.ret ⟨?_,rfl,rfl,Nat.zero_le _,_,rfl⟩
  simp [h.1,h.2];rfl
 ·repeat refine AWp.seq ?_
  refine AWp.region ?_
  refine AOps.stepCall hT (an:={}) (fun A hA=>by
    have f0:=ar_len hA X n hn
    repeat (cbv;simp only [f0])
    cbv) (Nat.zero_le _) rfl (.inr rfl) rfl rfl rfl (Nat.le_of_ble_eq_true rfl) rfl rfl (between_ok' _ _ _ false (by simp;omega)) ?_
  refine AOps.done hT (an:={}) (fun A hA=>by cbv) (Nat.zero_le _) ?_
  try dsimp only [AExit.then,AExit.block]
  repeat refine AWp.seq ?_
  refine AWp.ret ⟨?_,rfl,rfl,Nat.zero_le _,_,rfl⟩
  have:(decide (1<=n)&&decide (n<=3))=false:=by simp;omega
  rw [this];rfl
def long (x:List (List Acc)):Bool:=x.any (fun l=>decide ((20:Int)<l.length))||decide ((20:Int)<x.length)
theorem long_ok (x:List (List Acc)) (hx:Big x):ACall P 13 [.d (dX x)] [] (AB (long x)) []:=by
 unfold dX
 obtain ⟨X,hX⟩ : ∃ X,x.map dAccs=X:=⟨_,rfl⟩
 obtain ⟨n,hn⟩ : ∃ n:Int,(X.length:Int)=n:=⟨_,rfl⟩
 have hxl:(x.length:Int)=n:=by rw [<-hn,<-hX];simp
 have hs:=hx.1
 rw [hX]
 refine ACall.enter hT (fn:=Try.f13) Try.func13 rfl (by decide) (by simp [Try.f13]) rfl rfl rfl rfl (Nat.le_refl _) ?_
 repeat refine AWp.seq ?_
 refine AWp.reg1 {} hT (fun A hA=>by cbv) (Nat.zero_le _) ?_
 try dsimp only [AExit.then,AExit.block]
 repeat refine AWp.seq ?_
 refine AWp.reg1 {} hT (fun A hA=>by
   have f0:=ar_len hA X n hn
   repeat (cbv;simp only [f0])
   cbv) (Nat.zero_le _) ?_
 try dsimp only [AExit.then,AExit.block]
 refine AWp.block (AWp.loopInv (ι:=Int) (fun z=>0<=z/\z<=n /\ ∀ l∈x.take z.toNat,¬ (20:Int)<l.length) (fun z=>(n-z).toNat) [0,5,6,7]
  (fun z=>{ env:=[(0,.d (.list 1 X)),(5,.d (.list 1 X)),(6,AI n),(7,AI z)],heap:=[],n:=18 }) 0 (by cbv) ⟨Int.le_refl _,by omega,by simp⟩ ?_)
 rintro z ⟨h0,h1,h2⟩
 by_cases hz:z<n
 ·obtain ⟨L,hL⟩ : ∃ L,x[z.toNat]?=some L:=⟨_,zp1 (by omega)⟩
  obtain ⟨L',hL'⟩ : ∃ L',L.map dAcc=L':=⟨_,rfl⟩
  obtain ⟨k,hk⟩ : ∃ n:Int,(L'.length:Int)=n:=⟨_,rfl⟩
  have hkL:(L.length:Int)=k:=by rw [<-hk,<-hL'];simp
  have hXt:X[z.toNat]?=some (.list 2 L'):=by rw [<-hX,List.getElem?_map,hL,<-hL'];rfl
  obtain ⟨z1,hz1⟩ : ∃ z1,z+1=z1:=⟨_,rfl⟩
  repeat refine AWp.seq ?_
  refine AWp.reg1 {} hT (fun A hA=>by
    have f0:=ar_lt hA hz
    repeat (cbv;simp only [f0])
    cbv) (Nat.zero_le _) ?_
  try dsimp only [AExit.then,AExit.block]
  repeat refine AWp.seq ?_
  refine AWp.cond (b:=true) rfl (AWp.skip ?_)
  try dsimp only [AExit.then,AExit.block]
  repeat refine AWp.seq ?_
  refine AWp.block ?_
  repeat refine AWp.seq ?_
  refine AWp.reg1 {} hT (fun A hA=>by
    have f0:=ar_get hA hXt
    have f1:=ar_le hA h0
    repeat (cbv;simp only [f0,f1])
    cbv) (Nat.zero_le _) ?_
  try dsimp only [AExit.then,AExit.block]
  by_cases h:20<k
  ·repeat refine AWp.seq ?_
   refine AWp.reg1 {} hT (fun A hA=>by
     have f0:=ar_len hA L' k hk
     have f1:=ar_lt hA h
     repeat (cbv;simp only [f0,f1])
     cbv) (Nat.zero_le _) ?_
   try dsimp only [AExit.then,AExit.block]
   repeat refine AWp.seq ?_
   refine AWp.cond (b:=true) rfl ?_
   rw [if_pos rfl]
   repeat refine AWp.seq ?_
   refine AWp.reg1 {} hT (fun A hA=>by cbv) (Nat.zero_le _) ?_
   try dsimp only [AExit.then,AExit.block]
   repeat refine AWp.seq ?_
   refine AWp.ret ⟨?_,rfl,rfl,Nat.zero_le _,_,rfl⟩
   have:long x=true:=by
    unfold long
    rw [List.any_eq_true.2 ⟨L,List.mem_of_getElem? hL,by simpa [hkL] using h⟩];rfl
   rw [this];rfl
  ·repeat refine AWp.seq ?_
   refine AWp.reg1 {} hT (fun A hA=>by
     have f0:=ar_len hA L' k hk
     have f1:=ar_nlt hA h
     repeat (cbv;simp only [f0,f1])
     cbv) (Nat.zero_le _) ?_
   try dsimp only [AExit.then,AExit.block]
   repeat refine AWp.seq ?_
   refine AWp.cond (b:=false) rfl (AWp.skip ?_)
   try dsimp only [AExit.then,AExit.block]
   repeat refine AWp.seq ?_
   refine AWp.reg1 {} hT (fun A hA=>by
     have f0:=ar_add hA z 1 z1 hz1 (by omega) (by omega)
     repeat (cbv;simp only [f0])
     cbv) (Nat.zero_le _) ?_
   try dsimp only [AExit.then,AExit.block]
   refine ⟨z1,⟨by omega,by omega,?_⟩,by omega,by cbv⟩
   intro l hl
   rw [show z1.toNat=z.toNat+1 by omega,List.take_add_one,hL] at hl
   simp at hl
   rcases hl with hl | rfl
   ·exact h2 l hl
   ·omega
 ·repeat refine AWp.seq ?_
  refine AWp.reg1 {} hT (fun A hA=>by
    have f0:=ar_nlt hA hz
    repeat (cbv;simp only [f0])
    cbv) (Nat.zero_le _) ?_
  try dsimp only [AExit.then,AExit.block]
  repeat refine AWp.seq ?_
  refine AWp.cond (b:=false) rfl (AWp.exit ?_)
  try dsimp only [AExit.then,AExit.block]
  rw [if_pos rfl]
  rw [List.take_of_length_le (by omega)] at h2
  have hany:x.any (fun l=>decide ((20:Int)<l.length))=false:=List.any_eq_false.2 (fun y hy=>by simpa using h2 y hy)
  by_cases h:20<n
  ·repeat refine AWp.seq ?_
   refine AWp.reg1 {} hT (fun A hA=>by
     have f0:=ar_len hA X n hn
     have f1:=ar_lt hA h
     repeat (cbv;simp only [f0,f1])
     cbv) (Nat.zero_le _) ?_
   try dsimp only [AExit.then,AExit.block]
   repeat refine AWp.seq ?_
   refine AWp.ret ⟨?_,rfl,rfl,Nat.zero_le _,_,rfl⟩
   simp [long,hany,hxl,h];rfl
  ·repeat refine AWp.seq ?_
   refine AWp.reg1 {} hT (fun A hA=>by
     have f0:=ar_len hA X n hn
     have f1:=ar_nlt hA h
     repeat (cbv;simp only [f0,f1])
     cbv) (Nat.zero_le _) ?_
   try dsimp only [AExit.then,AExit.block]
   repeat refine AWp.seq ?_
   refine AWp.ret ⟨?_,rfl,rfl,Nat.zero_le _,_,rfl⟩
   simp [long,hany,hxl,h];rfl
end Go.Am

namespace Go.Am
open Go Go.Proofs
theorem any_take_false {α:Type} {p:α->Bool} {l:List α} (h : ∀ y∈l,p y=false):l.any p=false:=List.any_eq_false.2 (fun y hy=>by rw [h y hy];exact Bool.false_ne_true)
theorem any_mem_true {α:Type} {p:α->Bool} {l:List α} {y:α} (h:y∈l) (hp:p y=true):l.any p=true:=List.any_eq_true.2 ⟨y,h,hp⟩
theorem validR_ok (x:List (List Acc)) (hx:Big x):ACall P 14 [.d (dX x)] [] (AB (valid x)) []:=by
 unfold dX
 obtain ⟨X,hX⟩ : ∃ X,x.map dAccs=X:=⟨_,rfl⟩
 obtain ⟨n,hn⟩ : ∃ n:Int,(X.length:Int)=n:=⟨_,rfl⟩
 have hxl:(x.length:Int)=n:=by rw [<-hn,<-hX];simp
 have hs:=hx.1
 rw [hX]
 refine ACall.enter hT (fn:=Try.f14) Try.func14 rfl (by decide) (by simp [Try.f14]) rfl rfl rfl rfl (Nat.le_refl _) ?_
 repeat refine AWp.seq ?_
 refine AWp.reg1 {} hT (fun A hA=>by cbv) (Nat.zero_le _) ?_
 try dsimp only [AExit.then,AExit.block]
 repeat refine AWp.seq ?_
 refine AWp.reg1 {} hT (fun A hA=>by
   have f0:=ar_len hA X n hn
   repeat (cbv;simp only [f0])
   cbv) (Nat.zero_le _) ?_
 try dsimp only [AExit.then,AExit.block]
 refine AWp.block (AWp.loopInv (ι:=Int) (fun z=>0<=z/\z<=n /\ ∀ l∈x.take z.toNat,badL l=false) (fun z=>(n-z).toNat) [0,7,8,9]
  (fun z=>{ env:=[(0,.d (.list 1 X)),(7,.d (.list 1 X)),(8,AI n),(9,AI z)],heap:=[],n:=40 }) 0 (by cbv) ⟨Int.le_refl _,by omega,by simp⟩ ?_)
 rintro z ⟨h0,h1,h2⟩
 by_cases hz:z<n
 ·obtain ⟨L,hL⟩ : ∃ L,x[z.toNat]?=some L:=⟨_,zp1 (by omega)⟩
  obtain ⟨L',hL'⟩ : ∃ L',L.map dAcc=L':=⟨_,rfl⟩
  obtain ⟨k,hk⟩ : ∃ n:Int,(L'.length:Int)=n:=⟨_,rfl⟩
  have hkL:(L.length:Int)=k:=by rw [<-hk,<-hL'];simp
  have hs2:=hx.2 L (List.mem_of_getElem? hL)
  have hXt:X[z.toNat]?=some (.list 2 L'):=by rw [<-hX,List.getElem?_map,hL,<-hL'];rfl
  obtain ⟨z1,hz1⟩ : ∃ z1,z+1=z1:=⟨_,rfl⟩
  have hbad:badL L=true->valid x=false:=fun h=>by
   unfold valid;rw [any_mem_true (List.mem_of_getElem? hL) h];simp
  repeat refine AWp.seq ?_
  refine AWp.reg1 {} hT (fun A hA=>by
    have f0:=ar_lt hA hz
    repeat (cbv;simp only [f0])
    cbv) (Nat.zero_le _) ?_
  try dsimp only [AExit.then,AExit.block]
  repeat refine AWp.seq ?_
  refine AWp.cond (b:=true) rfl (AWp.skip ?_)
  try dsimp only [AExit.then,AExit.block]
  repeat refine AWp.seq ?_
  refine AWp.block ?_
  repeat refine AWp.seq ?_
  refine AWp.reg1 {} hT (fun A hA=>by
    have f0:=ar_get hA hXt
    have f1:=ar_le hA h0
    repeat (cbv;simp only [f0,f1])
    cbv) (Nat.zero_le _) ?_
  try dsimp only [AExit.then,AExit.block]
  by_cases h:4<k
  ·repeat refine AWp.seq ?_
   refine AWp.reg1 {} hT (fun A hA=>by
     have f0:=ar_len hA L' k hk
     have f1:=ar_lt hA h
     repeat (cbv;simp only [f0,f1])
     cbv) (Nat.zero_le _) ?_
   try dsimp only [AExit.then,AExit.block]
   repeat refine AWp.seq ?_
   refine AWp.cond (b:=true) rfl ?_
   rw [if_pos rfl]
   repeat refine AWp.seq ?_
   refine AWp.reg1 {} hT (fun A hA=>by cbv) (Nat.zero_le _) ?_
   try dsimp only [AExit.then,AExit.block]
   repeat refine AWp.seq ?_
   refine AWp.ret ⟨?_,rfl,rfl,Nat.zero_le _,_,rfl⟩
   rw [hbad (by unfold badL;simp [hkL,h])];rfl
  ·repeat refine AWp.seq ?_
   refine AWp.reg1 {} hT (fun A hA=>by
     have f0:=ar_len hA L' k hk
     have f1:=ar_nlt hA h
     repeat (cbv;simp only [f0,f1])
     cbv) (Nat.zero_le _) ?_
   try dsimp only [AExit.then,AExit.block]
   repeat refine AWp.seq ?_
   refine AWp.cond (b:=false) rfl (AWp.skip ?_)
   try dsimp only [AExit.then,AExit.block]
   repeat refine AWp.seq ?_
   refine AWp.reg1 {} hT (fun A hA=>by
     have f0:=ar_len hA L' k hk
     repeat (cbv;simp only [f0])
     cbv) (Nat.zero_le _) ?_
   try dsimp only [AExit.then,AExit.block]
   refine AWp.block (AWp.loopInv (ι:=Int) (fun y=>0<=y/\y<=k /\ ∀ l∈L.take y.toNat,badAcc l=false) (fun y=>(k-y).toNat) [0,7,8,9,16,17,18]
    (fun y=>{ env:=[(0,.d (.list 1 X)),(7,.d (.list 1 X)),(8,AI n),(9,AI z),(16,.d (.list 2 L')),(17,AI k),(18,AI y)],heap:=[],n:=40 }) 0 (by cbv) ⟨Int.le_refl _,by omega,by simp⟩ ?_)
   rintro y ⟨g0,g1,g2⟩
   by_cases hy:y<k
   ·obtain ⟨⟨v,b⟩,hc⟩ : ∃ c,L[y.toNat]?=some c:=⟨_,zp1 (by omega)⟩
    have hLt:L'[y.toNat]?=some (.agg [I v,.bool b]):=by rw [<-hL',List.getElem?_map,hc];rfl
    obtain ⟨y1,hy1⟩ : ∃ z1,y+1=z1:=⟨_,rfl⟩
    have hbadA:badAcc (v,b)=true->valid x=false:=fun h=>hbad (by unfold badL;rw [any_mem_true (List.mem_of_getElem? hc) h];simp)
    repeat refine AWp.seq ?_
    refine AWp.reg1 {} hT (fun A hA=>by
      have f0:=ar_lt hA hy
      repeat (cbv;simp only [f0])
      cbv) (Nat.zero_le _) ?_
    try dsimp only [AExit.then,AExit.block]
    repeat refine AWp.seq ?_
    refine AWp.cond (b:=true) rfl (AWp.skip ?_)
    try dsimp only [AExit.then,AExit.block]
    repeat refine AWp.seq ?_
    refine AWp.block ?_
    repeat refine AWp.seq ?_
    refine AWp.reg1 {} hT (fun A hA=>by
      have f0:=ar_get hA hLt
      have f1:=ar_le hA g0
      repeat (cbv;simp only [f0,f1])
      cbv) (Nat.zero_le _) ?_
    try dsimp only [AExit.then,AExit.block]
    by_cases e1:v<0
    ·repeat refine AWp.seq ?_
     refine AWp.reg1 {} hT (fun A hA=>by
       have f0:=ar_lt hA e1
       repeat (cbv;simp only [f0])
       cbv) (Nat.zero_le _) ?_
     try dsimp only [AExit.then,AExit.block]
     repeat refine AWp.seq ?_
     refine AWp.cond (b:=true) rfl ?_
     rw [if_pos rfl]
     repeat refine AWp.seq ?_
     refine AWp.reg1 {} hT (fun A hA=>by cbv) (Nat.zero_le _) ?_
     try dsimp only [AExit.then,AExit.block]
     repeat refine AWp.seq ?_
     refine AWp.ret ⟨?_,rfl,rfl,Nat.zero_le _,_,rfl⟩
     rw [hbadA (by unfold badAcc;simp;omega)];rfl
    ·by_cases e2:3<=v
     ·repeat refine AWp.seq ?_
      refine AWp.reg1 {} hT (fun A hA=>by
        have f0:=ar_nlt hA e1
        have f1:=ar_le hA e2
        repeat (cbv;simp only [f0,f1])
        cbv) (Nat.zero_le _) ?_
      try dsimp only [AExit.then,AExit.block]
      repeat refine AWp.seq ?_
      refine AWp.cond (b:=true) rfl ?_
      rw [if_pos rfl]
      repeat refine AWp.seq ?_
      refine AWp.reg1 {} hT (fun A hA=>by cbv) (Nat.zero_le _) ?_
      try dsimp only [AExit.then,AExit.block]
      repeat refine AWp.seq ?_
      refine AWp.ret ⟨?_,rfl,rfl,Nat.zero_le _,_,rfl⟩
      rw [hbadA (by unfold badAcc;simp;omega)];rfl
     ·repeat refine AWp.seq ?_
      refine AWp.reg1 {} hT (fun A hA=>by
        have f0:=ar_nlt hA e1
        have f1:=ar_nle hA e2
        repeat (cbv;simp only [f0,f1])
        cbv) (Nat.zero_le _) ?_
      try dsimp only [AExit.then,AExit.block]
      repeat refine AWp.seq ?_
      refine AWp.cond (b:=false) rfl (AWp.skip ?_)
      try dsimp only [AExit.then,AExit.block]
      repeat refine AWp.seq ?_
      refine AWp.reg1 {} hT (fun A hA=>by
        have f0:=ar_add hA y 1 y1 hy1 (by omega) (by omega)
        repeat (cbv;simp only [f0])
        cbv) (Nat.zero_le _) ?_
      try dsimp only [AExit.then,AExit.block]
      refine ⟨y1,⟨by omega,by omega,?_⟩,by omega,by cbv⟩
      intro l hl
      rw [show y1.toNat=y.toNat+1 by omega,List.take_add_one,hc] at hl
      simp only [Option.toList_some,List.mem_append,List.mem_singleton] at hl
      rcases hl with hl | rfl
      ·exact g2 l hl
      ·unfold badAcc;simp;omega
   ·repeat refine AWp.seq ?_
    refine AWp.reg1 {} hT (fun A hA=>by
      have f0:=ar_nlt hA hy
      repeat (cbv;simp only [f0])
      cbv) (Nat.zero_le _) ?_
    try dsimp only [AExit.then,AExit.block]
    repeat refine AWp.seq ?_
    refine AWp.cond (b:=false) rfl (AWp.exit ?_)
    try dsimp only [AExit.then,AExit.block]
    rw [if_pos rfl]
    repeat refine AWp.seq ?_
    refine AWp.reg1 {} hT (fun A hA=>by
      have f0:=ar_add hA z 1 z1 hz1 (by omega) (by omega)
      repeat (cbv;simp only [f0])
      cbv) (Nat.zero_le _) ?_
    try dsimp only [AExit.then,AExit.block]
    refine ⟨z1,⟨by omega,by omega,?_⟩,by omega,by cbv⟩
    intro l hl
    rw [show z1.toNat=z.toNat+1 by omega,List.take_add_one,hL] at hl
    simp only [Option.toList_some,List.mem_append,List.mem_singleton] at hl
    rcases hl with hl | rfl
    ·exact h2 l hl
    ·rw [List.take_of_length_le (by omega)] at g2
     unfold badL;rw [any_take_false g2];simp;omega
 ·repeat refine AWp.seq ?_
  refine AWp.reg1 {} hT (fun A hA=>by
    have f0:=ar_nlt hA hz
    repeat (cbv;simp only [f0])
    cbv) (Nat.zero_le _) ?_
  try dsimp only [AExit.then,AExit.block]
  repeat refine AWp.seq ?_
  refine AWp.cond (b:=false) rfl (AWp.exit ?_)
  try dsimp only [AExit.then,AExit.block]
  rw [if_pos rfl]
  rw [List.take_of_length_le (by omega)] at h2
  have hany:=any_take_false h2
  by_cases e1:1<=n
  ·by_cases e2:n<=3
   ·repeat refine AWp.seq ?_
    refine AWp.reg1 {} hT (fun A hA=>by
      have f0:=ar_len hA X n hn
      have f1:=ar_le hA e1
      have f2:=ar_le hA e2
      repeat (cbv;simp only [f0,f1,f2])
      cbv) (Nat.zero_le _) ?_
    try dsimp only [AExit.then,AExit.block]
    repeat refine AWp.seq ?_
    refine AWp.ret ⟨?_,rfl,rfl,Nat.zero_le _,_,rfl⟩
    simp [valid,hany,hxl,e1,e2];rfl
   ·repeat refine AWp.seq ?_
    refine AWp.reg1 {} hT (fun A hA=>by
      have f0:=ar_len hA X n hn
      have f1:=ar_le hA e1
      have f2:=ar_nle hA e2
      repeat (cbv;simp only [f0,f1,f2])
      cbv) (Nat.zero_le _) ?_
    try dsimp only [AExit.then,AExit.block]
    repeat refine AWp.seq ?_
    refine AWp.ret ⟨?_,rfl,rfl,Nat.zero_le _,_,rfl⟩
    simp [valid,hany,hxl,e1,e2];rfl
  ·repeat refine AWp.seq ?_
   refine AWp.reg1 {} hT (fun A hA=>by
     have f0:=ar_len hA X n hn
     have f1:=ar_nle hA e1
     repeat (cbv;simp only [f0,f1])
     cbv) (Nat.zero_le _) ?_
   try dsimp only [AExit.then,AExit.block]
   repeat refine AWp.seq ?_
   refine AWp.ret ⟨?_,rfl,rfl,Nat.zero_le _,_,rfl⟩
   simp [valid,hany,hxl,e1];rfl
def conf (x:List (List Acc)) (s u:Int×Int):Bool:=conflict x s.1 s.2 u.1 u.2
end Go.Am

namespace Go.Am
open Go Go.Proofs
def staB (x:List (List Acc)) (t a n:Nat):List Sta:=((List.range n).filter fun (b:Nat)=>decide (a<=b)&&(decide (a=b)||isPair x ((t:Int),(a:Int),(b:Int)))).map fun (b:Nat)=>((t:Int),(a:Int),(b:Int))
def staA (x:List (List Acc)) (t n m:Nat):List Sta:=(List.range m).flatMap fun a=>staB x t a n
def staT (x:List (List Acc)) (n:Nat):List Sta:=(List.range n).flatMap fun t=>staA x t (x.getD t []).length (x.getD t []).length
def stations (x:List (List Acc)):List Sta:=staT x x.length
theorem flatMap_range_succ {α:Type} (g:Nat->List α) (n:Nat):(List.range (n+1)).flatMap g=(List.range n).flatMap g++g n:=by
 rw [List.range_succ,List.flatMap_append];simp
theorem staB_succ (x:List (List Acc)) (t a n:Nat):staB x t a (n+1)=staB x t a n++if decide (a<=n)&&(decide (a=n)||isPair x ((t:Int),(a:Int),(n:Int))) then [((t:Int),(a:Int),(n:Int))] else []:=by
 unfold staB
 rw [List.range_succ,List.filter_append,List.map_append]
 congr 1
 simp only [List.filter_cons,List.filter_nil]
 split <;> rfl
theorem staB_self (x:List (List Acc)) (t a:Nat):staB x t a a=[]:=by
 unfold staB
 rw [List.map_eq_nil_iff,List.filter_eq_nil_iff]
 intro b hb
 have:=List.mem_range.1 hb
 simp;omega
theorem stations_ok (x:List (List Acc)) (hx:Small x):ACall P 78 [.d (dX x)] [] (.own 3 ((stations x).map dSta)) []:=by
 have cp:=fun s=>isPair_ok x s hx
 unfold dX at *
 obtain ⟨X,hX⟩ : ∃ X,x.map dAccs=X:=⟨_,rfl⟩
 obtain ⟨n,hn⟩ : ∃ n:Int,(X.length:Int)=n:=⟨_,rfl⟩
 have hxl:(x.length:Int)=n:=by rw [<-hn,<-hX];simp
 have hs:=hx.1
 rw [hX] at cp ⊢
 have hS : ∀ m,staT x (m+1)=staT x m++staA x m (x.getD m []).length (x.getD m []).length:=fun m=>flatMap_range_succ _ _
 have hSA : ∀ t n m,staA x t n (m+1)=staA x t n m++staB x t m n:=fun t n m=>flatMap_range_succ _ _
 refine ACall.enter hT (fn:=Try.f78) Try.func78 rfl (by decide) (by simp [Try.f78]) rfl rfl rfl rfl (Nat.le_refl _) ?_
 repeat refine AWp.seq ?_
 refine AWp.reg1 {tk:=[3]} hT (fun A hA=>by cbv) (Nat.zero_le _) ?_
 try dsimp only [AExit.then,AExit.block]
 repeat refine AWp.seq ?_
 refine AWp.reg1 {tk:=[3]} hT (fun A hA=>by cbv) (Nat.zero_le _) ?_
 try dsimp only [AExit.then,AExit.block]
 repeat refine AWp.seq ?_
 refine AWp.reg1 {} hT (fun A hA=>by
   have f0:=ar_len hA X n hn
   repeat (cbv;simp only [f0])
   cbv) (Nat.zero_le _) ?_
 try dsimp only [AExit.then,AExit.block]
 refine AWp.block (AWp.loopInv (ι:=Int×List D) (fun p=>0<=p.1/\p.1<=n/\p.2=(staT x p.1.toNat).map dSta/\p.2.length<=p.1*1000000) (fun p=>(n-p.1).toNat) [0,3,9,10,11]
  (fun p=>{ env:=[(0,.d (.list 1 X)),(3,.own 3 p.2),(9,.d (.list 1 X)),(10,AI n),(11,AI p.1)],heap:=[],n:=47 }) (0,[]) (by cbv) ⟨Int.le_refl _,by omega,rfl,by simp⟩ ?_)
 rintro ⟨z,l⟩ ⟨h0,h1,hl,hlen⟩
 dsimp only at *
 by_cases hz:z<n
 ·obtain ⟨L,hL⟩ : ∃ L,x[z.toNat]?=some L:=⟨_,zp1 (by omega)⟩
  obtain ⟨L',hL'⟩ : ∃ L',L.map dAcc=L':=⟨_,rfl⟩
  obtain ⟨k,hk⟩ : ∃ n:Int,(L'.length:Int)=n:=⟨_,rfl⟩
  have hkL:(L.length:Int)=k:=by rw [<-hk,<-hL'];simp
  have hs2:=hx.2 L (List.mem_of_getElem? hL)
  have hXt:X[z.toNat]?=some (.list 2 L'):=by rw [<-hX,List.getElem?_map,hL,<-hL'];rfl
  obtain ⟨z1,hz1⟩ : ∃ z1,z+1=z1:=⟨_,rfl⟩
  repeat refine AWp.seq ?_
  refine AWp.reg1 {} hT (fun A hA=>by
    have f0:=ar_lt hA hz
    repeat (cbv;simp only [f0])
    cbv) (Nat.zero_le _) ?_
  try dsimp only [AExit.then,AExit.block]
  repeat refine AWp.seq ?_
  refine AWp.cond (b:=true) rfl (AWp.skip ?_)
  try dsimp only [AExit.then,AExit.block]
  repeat refine AWp.seq ?_
  refine AWp.block ?_
  repeat refine AWp.seq ?_
  refine AWp.reg1 {} hT (fun A hA=>by
    have f0:=ar_get hA hXt
    have f1:=ar_le hA h0
    repeat (cbv;simp only [f0,f1])
    cbv) (Nat.zero_le _) ?_
  try dsimp only [AExit.then,AExit.block]
  repeat refine AWp.seq ?_
  refine AWp.reg1 {} hT (fun A hA=>by
    have f0:=ar_len hA L' k hk
    repeat (cbv;simp only [f0])
    cbv) (Nat.zero_le _) ?_
  try dsimp only [AExit.then,AExit.block]
  refine AWp.block (AWp.loopInv (ι:=Int×List D) (fun p=>0<=p.1/\p.1<=k/\p.2=l++(staA x z.toNat L.length p.1.toNat).map dSta/\p.2.length<=z*1000000+p.1*1000) (fun p=>(k-p.1).toNat) [0,3,4,5,9,10,11,17,18]
   (fun p=>{ env:=[(0,.d (.list 1 X)),(3,.own 3 p.2),(4,AI z),(5,.d (.list 2 L')),(9,.d (.list 1 X)),(10,AI n),(11,AI z),(17,AI k),(18,AI p.1)],heap:=[],n:=47 }) (0,l) (by cbv) ⟨Int.le_refl _,by omega,by simp [staA],by simpa using hlen⟩ ?_)
  rintro ⟨y,l1⟩ ⟨g0,g1,gl,glen⟩
  dsimp only at *
  by_cases hy:y<k
  ·obtain ⟨y1,hy1⟩ : ∃ z1,y+1=z1:=⟨_,rfl⟩
   repeat refine AWp.seq ?_
   refine AWp.reg1 {} hT (fun A hA=>by
     have f0:=ar_lt hA hy
     repeat (cbv;simp only [f0])
     cbv) (Nat.zero_le _) ?_
   try dsimp only [AExit.then,AExit.block]
   repeat refine AWp.seq ?_
   refine AWp.cond (b:=true) rfl (AWp.skip ?_)
   try dsimp only [AExit.then,AExit.block]
   repeat refine AWp.seq ?_
   refine AWp.block ?_
   repeat refine AWp.seq ?_
   refine AWp.reg1 {} hT (fun A hA=>by cbv) (Nat.zero_le _) ?_
   try dsimp only [AExit.then,AExit.block]
   repeat refine AWp.seq ?_
   refine AWp.reg1 {} hT (fun A hA=>by cbv) (Nat.zero_le _) ?_
   try dsimp only [AExit.then,AExit.block]
   refine AWp.block (AWp.loopInv (ι:=Int×List D) (fun p=>y<=p.1/\p.1<=k/\p.2=l1++(staB x z.toNat y.toNat p.1.toNat).map dSta/\p.2.length<=z*1000000+y*1000+p.1) (fun p=>(k-p.1).toNat) [0,3,4,5,6,7,9,10,11,17,18]
    (fun p=>{ env:=[(0,.d (.list 1 X)),(3,.own 3 p.2),(4,AI z),(5,.d (.list 2 L')),(6,AI y),(7,AI p.1),(9,.d (.list 1 X)),(10,AI n),(11,AI z),(17,AI k),(18,AI y)],heap:=[],n:=47 }) (y,l1) (by cbv) ⟨Int.le_refl _,g1,by simp [staB_self],by dsimp only;omega⟩ ?_)
   rintro ⟨v,l2⟩ ⟨e0,e1,el,elen⟩
   dsimp only at *
   by_cases hv:v<k
   ·obtain ⟨v1,hv1⟩ : ∃ z1,v+1=z1:=⟨_,rfl⟩
    obtain ⟨l3,hl3⟩ : ∃ l3,l2++[.agg [I z,I y,I v]]=l3:=⟨_,rfl⟩
    have hstep:=staB_succ x z.toNat y.toNat v.toNat
    rw [show (z.toNat:Int)=z by omega,show (y.toNat:Int)=y by omega,show (v.toNat:Int)=v by omega,show v.toNat+1=v1.toNat by omega,show decide (y.toNat<=v.toNat)=true by simp;omega] at hstep
    have hcp:=cp (z,y,v)
    unfold dSta at hcp
    dsimp only at hcp
    obtain ⟨r,hr⟩ : ∃ r,isPair x (z,y,v)=r:=⟨_,rfl⟩
    rw [hr] at hcp hstep
    have grow:l3.length<=z*1000000+y*1000+v1:=by rw [<-hl3];simp;omega
    have hyes:staB x z.toNat y.toNat v1.toNat=staB x z.toNat y.toNat v.toNat++[(z,y,v)]->l3=l1++(staB x z.toNat y.toNat v1.toNat).map dSta:=fun h=>by
     rw [h,List.map_append,<-List.append_assoc,<-el,<-hl3];rfl
    repeat refine AWp.seq ?_
    refine AWp.reg1 {} hT (fun A hA=>by
      have f0:=ar_len hA L' k hk
      have f1:=ar_lt hA hv
      repeat (cbv;simp only [f0,f1])
      cbv) (Nat.zero_le _) ?_
    try dsimp only [AExit.then,AExit.block]
    repeat refine AWp.seq ?_
    refine AWp.cond (b:=true) rfl (AWp.skip ?_)
    try dsimp only [AExit.then,AExit.block]
    repeat refine AWp.seq ?_
    refine AWp.block ?_
    repeat refine AWp.seq ?_
    refine AWp.reg1 {} hT (fun A hA=>by cbv) (Nat.zero_le _) ?_
    try dsimp only [AExit.then,AExit.block]
    by_cases e:y=v
    ·rw [show decide (y.toNat=v.toNat)=true by simp;omega] at hstep
     repeat refine AWp.seq ?_
     refine AWp.reg1 {} hT (fun A hA=>by
       have f0:=ar_eq hA e
       repeat (cbv;simp only [f0])
       cbv) (Nat.zero_le _) ?_
     try dsimp only [AExit.then,AExit.block]
     repeat refine AWp.seq ?_
     refine AWp.cond (b:=true) rfl ?_
     rw [if_pos rfl]
     repeat refine AWp.seq ?_
     refine AWp.reg1 {tk:=[3,40,43]} hT (fun A hA=>by
       have f0:=ar_app hA _ _ _ hl3
       have f1:=ar_fits hA l2 [.agg [I z,I y,I v]] (by simp;omega)
       repeat (cbv;simp only [f0,f1])
       cbv) (Nat.zero_le _) ?_
     try dsimp only [AExit.then,AExit.block]
     repeat refine AWp.seq ?_
     refine AWp.reg1 {} hT (fun A hA=>by
       have f0:=ar_add hA v 1 v1 hv1 (by omega) (by omega)
       repeat (cbv;simp only [f0])
       cbv) (Nat.zero_le _) ?_
     try dsimp only [AExit.then,AExit.block]
     refine ⟨(v1,l3),⟨by dsimp only;omega,by dsimp only;omega,hyes (by rw [hstep];simp),grow⟩,by dsimp only;omega,by cbv⟩
    ·rw [show decide (y.toNat=v.toNat)=false by simp;omega] at hstep
     repeat refine AWp.seq ?_
     refine AWp.region ?_
     refine AOps.stepCall hT (an:={}) (fun A hA=>by
       have f0:=ar_ne hA e
       repeat (cbv;simp only [f0])
       cbv) (Nat.zero_le _) rfl (.inr rfl) rfl rfl rfl (Nat.le_of_ble_eq_true rfl) rfl rfl (hcp) ?_
     refine AOps.done hT (an:={}) (fun A hA=>by cbv) (Nat.zero_le _) ?_
     try dsimp only [AExit.then,AExit.block]
     cases r with
     | true =>
       repeat refine AWp.seq ?_
       refine AWp.cond (b:=true) rfl ?_
       rw [if_pos rfl]
       repeat refine AWp.seq ?_
       refine AWp.reg1 {tk:=[3,40,43]} hT (fun A hA=>by
         have f0:=ar_app hA _ _ _ hl3
         have f1:=ar_fits hA l2 [.agg [I z,I y,I v]] (by simp;omega)
         repeat (cbv;simp only [f0,f1])
         cbv) (Nat.zero_le _) ?_
       try dsimp only [AExit.then,AExit.block]
       repeat refine AWp.seq ?_
       refine AWp.reg1 {} hT (fun A hA=>by
         have f0:=ar_add hA v 1 v1 hv1 (by omega) (by omega)
         repeat (cbv;simp only [f0])
         cbv) (Nat.zero_le _) ?_
       try dsimp only [AExit.then,AExit.block]
       refine ⟨(v1,l3),⟨by dsimp only;omega,by dsimp only;omega,hyes (by rw [hstep];simp),grow⟩,by dsimp only;omega,by cbv⟩
     | false =>
       repeat refine AWp.seq ?_
       refine AWp.cond (b:=false) rfl (AWp.skip ?_)
       try dsimp only [AExit.then,AExit.block]
       repeat refine AWp.seq ?_
       refine AWp.reg1 {} hT (fun A hA=>by
         have f0:=ar_add hA v 1 v1 hv1 (by omega) (by omega)
         repeat (cbv;simp only [f0])
         cbv) (Nat.zero_le _) ?_
       try dsimp only [AExit.then,AExit.block]
       refine ⟨(v1,l2),⟨by dsimp only;omega,by dsimp only;omega,by dsimp only;rw [hstep,el];simp,by dsimp only;omega⟩,by dsimp only;omega,by cbv⟩
   ·repeat refine AWp.seq ?_
    refine AWp.reg1 {} hT (fun A hA=>by
      have f0:=ar_len hA L' k hk
      have f1:=ar_nlt hA hv
      repeat (cbv;simp only [f0,f1])
      cbv) (Nat.zero_le _) ?_
    try dsimp only [AExit.then,AExit.block]
    repeat refine AWp.seq ?_
    refine AWp.cond (b:=false) rfl (AWp.exit ?_)
    try dsimp only [AExit.then,AExit.block]
    rw [if_pos rfl]
    repeat refine AWp.seq ?_
    refine AWp.reg1 {} hT (fun A hA=>by
      have f0:=ar_add hA y 1 y1 hy1 (by omega) (by omega)
      repeat (cbv;simp only [f0])
      cbv) (Nat.zero_le _) ?_
    try dsimp only [AExit.then,AExit.block]
    refine ⟨(y1,l2),⟨by dsimp only;omega,by dsimp only;omega,?_,by dsimp only;omega⟩,by dsimp only;omega,by cbv⟩
    dsimp only
    rw [show y1.toNat=y.toNat+1 by omega,hSA,List.map_append,<-List.append_assoc,<-gl,el,show v.toNat=L.length by omega]
  ·repeat refine AWp.seq ?_
   refine AWp.reg1 {} hT (fun A hA=>by
     have f0:=ar_nlt hA hy
     repeat (cbv;simp only [f0])
     cbv) (Nat.zero_le _) ?_
   try dsimp only [AExit.then,AExit.block]
   repeat refine AWp.seq ?_
   refine AWp.cond (b:=false) rfl (AWp.exit ?_)
   try dsimp only [AExit.then,AExit.block]
   rw [if_pos rfl]
   repeat refine AWp.seq ?_
   refine AWp.reg1 {} hT (fun A hA=>by
     have f0:=ar_add hA z 1 z1 hz1 (by omega) (by omega)
     repeat (cbv;simp only [f0])
     cbv) (Nat.zero_le _) ?_
   try dsimp only [AExit.then,AExit.block]
   refine ⟨(z1,l1),⟨by dsimp only;omega,by dsimp only;omega,?_,by dsimp only;omega⟩,by dsimp only;omega,by cbv⟩
   dsimp only
   rw [show z1.toNat=z.toNat+1 by omega,hS,List.map_append,<-hl,List.getD_eq_getElem?_getD,hL,gl,show y.toNat=L.length by omega]
   rfl
 ·repeat refine AWp.seq ?_
  refine AWp.reg1 {} hT (fun A hA=>by
    have f0:=ar_nlt hA hz
    repeat (cbv;simp only [f0])
    cbv) (Nat.zero_le _) ?_
  try dsimp only [AExit.then,AExit.block]
  repeat refine AWp.seq ?_
  refine AWp.cond (b:=false) rfl (AWp.exit ?_)
  try dsimp only [AExit.then,AExit.block]
  rw [if_pos rfl]
  repeat refine AWp.seq ?_
  refine AWp.reg1 {tk:=[3,46]} hT (fun A hA=>by cbv) (Nat.zero_le _) ?_
  try dsimp only [AExit.then,AExit.block]
  repeat refine AWp.seq ?_
  refine AWp.ret ⟨?_,rfl,rfl,Nat.zero_le _,_,rfl⟩
  rw [stations,show x.length=z.toNat by omega,<-hl];rfl
end Go.Am

namespace Go.Am
open Go Go.Proofs
theorem sameThread_ok (u s:Sta):ACall P 120 [.d (dSta u),.ptr 0 0] [.cells [AI s.1,AI s.2.1,AI s.2.2]] (AB (decide (u.1=s.1))) [.cells [AI s.1,AI s.2.1,AI s.2.2]]:=by
 obtain ⟨t,a,b⟩:=u
 obtain ⟨t',a',b'⟩:=s
 unfold dSta
 dsimp only
 refine ACall.enter hT (fn:=Try.f120) Try.func120 rfl (by decide) (by simp [Try.f120]) rfl rfl rfl rfl (Nat.le_refl _) ?_
 repeat refine AWp.seq ?_
 refine AWp.reg1 {} hT (fun A hA=>by cbv) (Nat.le_refl _) ?_
 try dsimp only [AExit.then,AExit.block]
 by_cases h:t=t'
 ·repeat refine AWp.seq ?_
  refine AWp.reg1 {} hT (fun A hA=>by
    have f0:=ar_eq hA h
    repeat (cbv;simp only [f0])
    cbv) (Nat.le_refl _) ?_
  try dsimp only [AExit.then,AExit.block]
  repeat refine AWp.seq ?_
  refine AWp.ret ⟨?_,rfl,rfl,Nat.le_refl _,_,rfl⟩
  simp [h];rfl
 ·repeat refine AWp.seq ?_
  refine AWp.reg1 {} hT (fun A hA=>by
    have f0:=ar_ne hA h
    repeat (cbv;simp only [f0])
    cbv) (Nat.le_refl _) ?_
  try dsimp only [AExit.then,AExit.block]
  repeat refine AWp.seq ?_
  refine AWp.ret ⟨?_,rfl,rfl,Nat.le_refl _,_,rfl⟩
  simp [h];rfl
def isThere (x:List (List Acc)) (s:Sta):Bool:=there x s.1 s.2.1&&there x s.1 s.2.2
def circAt (x:List (List Acc)) (l:List Sta) (i:Nat):Bool :=
 let s:=l.getD i (0,0,0)
 let n:=l.getD ((i+1)%l.length) (0,0,0)
 conflict x s.1 s.2.2 n.1 n.2.1 && !(l.take i).any fun u=>decide (u.1=s.1)
def isCircle (x:List (List Acc)) (l:List Sta):Bool:=(List.range l.length).all (circAt x l)&&l.any (isPair x)
theorem isCircle_ok (x:List (List Acc)) (hx:Small x) (l:List Sta) (hl:l.length<=1000000) (hth : ∀ s∈l,isThere x s=true):ACall P 80 [.d (dX x),.d (.list 3 (l.map dSta))] [] (AB (isCircle x l)) []:=by
 have cp : ∀ s,ACall P 84 [.d (dX x),.d (dSta s)] [] (AB (isPair x s)) []:=fun s=>isPair_ok x s hx
 have cc : ∀ s∈l,∀ u∈l,ACall P 63 [.d (dX x),.d (.agg [I s.1,I s.2.2]),.d (.agg [I u.1,I u.2.1])] [] (AB (conflict x s.1 s.2.2 u.1 u.2.1)) []:=fun s hs u hu =>
  conflict_ok x _ _ _ _ (by have:=hth s hs;unfold isThere at this;simp at this;exact this.2) (by have:=hth u hu;unfold isThere at this;simp at this;exact this.1)
 have chas : ∀ (m:Nat) (s:Sta),ACall P 119 [.d (.list 3 ((l.take m).map dSta)),.func 120 [] [.ptr 0 0]] [.cells [AI s.1,AI s.2.1,AI s.2.2]] (AB ((l.take m).any fun u=>decide (u.1=s.1))) [.cells [AI s.1,AI s.2.1,AI s.2.2]]:=fun m s =>
  contains98 _ (by rw [List.length_take];omega) 120 [.ptr 0 0] _ _ rfl rfl rfl (fun u _=>sameThread_ok u s)
 have hdef:isCircle x l=((List.range l.length).all (circAt x l)&&l.any (isPair x)):=rfl
 have hcirc : ∀ i,circAt x l i=(conflict x (l.getD i (0,0,0)).1 (l.getD i (0,0,0)).2.2 (l.getD ((i+1)%l.length) (0,0,0)).1 (l.getD ((i+1)%l.length) (0,0,0)).2.1 && !(l.take i).any fun u=>decide (u.1=(l.getD i (0,0,0)).1)):=fun i=>rfl
 obtain ⟨X,hX⟩ : ∃ X,dX x=X:=⟨_,rfl⟩
 rw [hX] at cp ⊢
 simp only [hX] at cc
 obtain ⟨L,hL⟩ : ∃ L,l.map dSta=L:=⟨_,rfl⟩
 obtain ⟨n,hn⟩ : ∃ n:Int,(L.length:Int)=n:=⟨_,rfl⟩
 have hln:(l.length:Int)=n:=by rw [<-hn,<-hL];simp
 rw [hL]
 refine ACall.enter hT (fn:=Try.f80) Try.func80 rfl (by decide) (by simp [Try.f80]) rfl rfl rfl rfl (Nat.le_refl _) ?_
 repeat refine AWp.seq ?_
 refine AWp.reg1 {} hT (fun A hA=>by cbv) (Nat.zero_le _) ?_
 try dsimp only [AExit.then,AExit.block]
 repeat refine AWp.seq ?_
 refine AWp.reg1 {} hT (fun A hA=>by cbv) (Nat.zero_le _) ?_
 try dsimp only [AExit.then,AExit.block]
 repeat refine AWp.seq ?_
 refine AWp.reg1 {} hT (fun A hA=>by
   have f0:=ar_len hA L n hn
   repeat (cbv;simp only [f0])
   cbv) (Nat.zero_le _) ?_
 try dsimp only [AExit.then,AExit.block]
 refine AWp.block (AWp.loopH (ι:=Int×Bool) (fun p=>0<=p.1/\p.1<=n/\(∀ i,i<p.1.toNat->circAt x l i=true)/\p.2=(l.take p.1.toNat).any (isPair x)) (fun p=>(n-p.1).toNat) [0,1,5,9,10,11] 0
  (fun p=>{ env:=[(0,.d X),(1,.d (.list 3 L)),(5,AB p.2),(9,.d (.list 3 L)),(10,AI n),(11,AI p.1)],heap:=[],n:=46 }) (0,false) (Nat.le_refl _) rfl (by cbv) ⟨Int.le_refl _,by omega,by simp,by simp⟩ ?_)
 rintro ⟨z,sm⟩ ⟨h0,h1,hc,hp⟩
 dsimp only at *
 by_cases hz:z<n
 ·obtain ⟨⟨t,a,b⟩,hs⟩ : ∃ s,l[z.toNat]?=some s:=⟨_,zp1 (by omega)⟩
  have hLz:L[z.toNat]?=some (.agg [I t,I a,I b]):=by rw [<-hL,List.getElem?_map,hs];rfl
  obtain ⟨z1,hz1⟩ : ∃ z1,z+1=z1:=⟨_,rfl⟩
  have hz1n:z1.toNat=z.toNat+1:=by omega
  obtain ⟨q,hq⟩ : ∃ q,z1.tmod n=q:=⟨_,rfl⟩
  have hq':q=((z1.toNat%l.length:Nat):Int):=by
   rw [<-hq,show z1=(z1.toNat:Int) by omega,<-hln,Int.ofNat_tmod];simp
  have hlpos:0<l.length:=by omega
  have hqlt:q.toNat<l.length:=by rw [hq'];have:=Nat.mod_lt z1.toNat hlpos;omega
  have hq0:0<=q:=by omega
  obtain ⟨⟨t',a',b'⟩,hs'⟩ : ∃ s,l[q.toNat]?=some s:=⟨_,zp1 hqlt⟩
  have hLq:L[q.toNat]?=some (.agg [I t',I a',I b']):=by rw [<-hL,List.getElem?_map,hs'];rfl
  have hat:=hcirc z.toNat
  rw [<-hz1n,show z1.toNat%l.length=q.toNat by omega,List.getD_eq_getElem?_getD,hs,List.getD_eq_getElem?_getD,hs'] at hat
  simp only [Option.getD_some] at hat
  have c1:=cc _ (List.mem_of_getElem? hs) _ (List.mem_of_getElem? hs')
  have c2:=chas z.toNat (t,a,b)
  have c3:=cp (t,a,b)
  unfold dSta at c3
  dsimp only at c1 c2 c3
  obtain ⟨r,hr⟩ : ∃ r,conflict x t b t' a'=r:=⟨_,rfl⟩
  obtain ⟨r2,hr2⟩ : ∃ r,((l.take z.toNat).any fun u=>decide (u.1=t))=r:=⟨_,rfl⟩
  obtain ⟨r3,hr3⟩ : ∃ r,isPair x (t,a,b)=r:=⟨_,rfl⟩
  obtain ⟨L2,hL2⟩ : ∃ L2,(l.take z.toNat).map dSta=L2:=⟨_,rfl⟩
  have hL2':L.take z.toNat=L2:=by rw [<-hL2,<-hL,List.map_take]
  rw [hr] at c1 hat
  rw [hr2] at c2 hat
  rw [hL2] at c2
  rw [hr3] at c3
  have hno:circAt x l z.toNat=false->isCircle x l=false:=fun h=>by
   rw [hdef]
   have:(List.range l.length).all (circAt x l)=false:=List.all_eq_false.2 ⟨z.toNat,by simp;omega,by rw [h];simp⟩
   rw [this];rfl
  have hnext:l.take z1.toNat=l.take z.toNat++[(t,a,b)]:=by rw [hz1n,List.take_add_one,hs];rfl
  have hsub : ∀ A:Ar,A=Ar.std->A.sub L 0 z=L2:=fun A hA=>by subst hA;rw [<-hL2'];simp [Ar.std]
  have hrem : ∀ A:Ar,A=Ar.std->A.rem z1 n=q:=fun A hA=>by subst hA;exact hq
  repeat refine AWp.seq ?_
  refine AWp.reg1 {} hT (fun A hA=>by
    have f0:=ar_lt hA hz
    repeat (cbv;simp only [f0])
    cbv) (Nat.zero_le _) ?_
  try dsimp only [AExit.then,AExit.block]
  repeat refine AWp.seq ?_
  refine AWp.cond (b:=true) rfl (AWp.skip ?_)
  try dsimp only [AExit.then,AExit.block]
  repeat refine AWp.seq ?_
  refine AWp.block ?_
  repeat refine AWp.seq ?_
  refine AWp.reg1 {esc:=[7]} hT (fun A hA=>by
    have f0:=ar_get hA hLz
    have f1:=ar_le hA h0
    repeat (cbv;simp only [f0,f1])
    cbv) (Nat.zero_le _) ?_
  try dsimp only [AExit.then,AExit.block]
  repeat refine AWp.seq ?_
  refine AWp.reg1 {} hT (fun A hA=>by
    have f0:=ar_add hA z 1 z1 hz1 (by omega) (by omega)
    have f1:=ar_len hA L n hn
    have f2:=ar_ne hA (show ¬ n=0 by omega)
    have f3:=hrem A hA
    have f4:=ar_get hA hLq
    have f5:=ar_le hA hq0
    repeat (cbv;simp only [f0,f1,f2,f3,f4,f5])
    cbv) (Nat.zero_le _) ?_
  try dsimp only [AExit.then,AExit.block]
  repeat refine AWp.seq ?_
  refine AWp.regionDraw rfl (Nat.zero_le _) ?_
  refine DOps.stepCall hT (an:={}) rfl (fun A hA=>by cbv) rfl rfl (Nat.le_of_ble_eq_true rfl) rfl rfl (out_ok t a b) ?_
  refine DOps.stepCall hT (an:={}) rfl (fun A hA=>by cbv) rfl rfl (Nat.le_of_ble_eq_true rfl) rfl rfl (in_ok t' a' b') ?_
  refine DOps.stepCall hT (an:={}) rfl (fun A hA=>by cbv) rfl rfl (Nat.le_of_ble_eq_true rfl) rfl rfl (c1) ?_
  cases r with
  | false =>
    refine DOps.done hT (an:={}) rfl (fun A hA=>by cbv) (by kernel_rfl) ?_
    try dsimp only [AExit.then,AExit.block]
    repeat refine AWp.seq ?_
    refine AWp.cond (b:=true) rfl ?_
    rw [if_pos rfl]
    repeat refine AWp.seq ?_
    refine AWp.reg1 {} hT (fun A hA=>by cbv) (Nat.zero_le _) ?_
    try dsimp only [AExit.then,AExit.block]
    repeat refine AWp.seq ?_
    refine AWp.ret ⟨?_,rfl,rfl,Nat.zero_le _,_,rfl⟩
    rw [hno (by rw [hat];rfl)];rfl
  | true =>
    refine DOps.stepCallH hT (an:={}) rfl (fun A hA=>by
      have f0:=ar_len hA L n hn
      have f1:=ar_le hA (Int.le_refl 0)
      have f2:=ar_le hA h0
      have f3:=ar_le hA h1
      have f4:=hsub A hA
      repeat (cbv;simp only [f0,f1,f2,f3,f4])
      cbv) rfl (.inr rfl) (by first | rfl | exact hin) rfl rfl (Nat.le_of_ble_eq_true rfl) rfl rfl (c2) ?_
    refine DOps.done hT (an:={}) rfl (fun A hA=>by cbv) (by kernel_rfl) ?_
    try dsimp only [AExit.then,AExit.block]
    cases r2 with
    | true =>
      repeat refine AWp.seq ?_
      refine AWp.cond (b:=true) rfl ?_
      rw [if_pos rfl]
      repeat refine AWp.seq ?_
      refine AWp.reg1 {} hT (fun A hA=>by cbv) (Nat.zero_le _) ?_
      try dsimp only [AExit.then,AExit.block]
      repeat refine AWp.seq ?_
      refine AWp.ret ⟨?_,rfl,rfl,Nat.zero_le _,_,rfl⟩
      rw [hno (by rw [hat];rfl)];rfl
    | false =>
      have hcn : ∀ i,i<z1.toNat->circAt x l i=true:=fun i hi=>by
       rcases Nat.lt_or_ge i z.toNat with h | h
       ·exact hc i h
       ·rw [show i=z.toNat by omega,hat];rfl
      repeat refine AWp.seq ?_
      refine AWp.cond (b:=false) rfl (AWp.skip ?_)
      try dsimp only [AExit.then,AExit.block]
      cases sm with
      | true =>
        repeat refine AWp.seq ?_
        refine AWp.reg1 {} hT (fun A hA=>by cbv) (Nat.zero_le _) ?_
        try dsimp only [AExit.then,AExit.block]
        repeat refine AWp.seq ?_
        refine AWp.reg1 {} hT (fun A hA=>by
          have f0:=ar_add hA z 1 z1 hz1 (by omega) (by omega)
          repeat (cbv;simp only [f0])
          cbv) (Nat.zero_le _) ?_
        try dsimp only [AExit.then,AExit.block]
        exact ⟨rfl,(z1,true),⟨by dsimp only;omega,by dsimp only;omega,hcn,by dsimp only;rw [hnext,List.any_append,<-hp];rfl⟩,by dsimp only;omega,by cbv⟩
      | false =>
        repeat refine AWp.seq ?_
        refine AWp.region ?_
        refine AOps.stepCall hT (an:={}) (fun A hA=>by cbv) (Nat.zero_le _) rfl (.inr rfl) rfl rfl rfl (Nat.le_of_ble_eq_true rfl) rfl rfl (c3) ?_
        refine AOps.done hT (an:={}) (fun A hA=>by cbv) (Nat.zero_le _) ?_
        try dsimp only [AExit.then,AExit.block]
        repeat refine AWp.seq ?_
        refine AWp.reg1 {} hT (fun A hA=>by
          have f0:=ar_add hA z 1 z1 hz1 (by omega) (by omega)
          repeat (cbv;simp only [f0])
          cbv) (Nat.zero_le _) ?_
        try dsimp only [AExit.then,AExit.block]
        exact ⟨rfl,(z1,r3),⟨by dsimp only;omega,by dsimp only;omega,hcn,by dsimp only;rw [hnext,List.any_append,<-hp];simp [hr3]⟩,by dsimp only;omega,by cbv⟩
 ·repeat refine AWp.seq ?_
  refine AWp.reg1 {} hT (fun A hA=>by
    have f0:=ar_nlt hA hz
    repeat (cbv;simp only [f0])
    cbv) (Nat.zero_le _) ?_
  try dsimp only [AExit.then,AExit.block]
  repeat refine AWp.seq ?_
  refine AWp.cond (b:=false) rfl (AWp.exit ?_)
  try dsimp only [AExit.then,AExit.block]
  rw [if_pos rfl]
  repeat refine AWp.seq ?_
  refine AWp.reg1 {} hT (fun A hA=>by cbv) (Nat.zero_le _) ?_
  try dsimp only [AExit.then,AExit.block]
  repeat refine AWp.seq ?_
  refine AWp.ret ⟨?_,rfl,rfl,Nat.zero_le _,_,rfl⟩
  have h2:(List.range l.length).all (circAt x l)=true:=List.all_eq_true.2 (fun i hi=>hc i (by have:=List.mem_range.1 hi;omega))
  rw [hdef,h2,hp,List.take_of_length_le (by omega)];rfl
end Go.Am

namespace Go.Am
open Go Go.Proofs
theorem ar_zadd0 {A:Ar} (hA:A=Ar.std) (x:Int):A.zadd 0 x=x:=by subst hA;show 0+x=x;omega
theorem index98m (x:List Sta) (f:FuncId) (bs:List AV) (ob:Obj) (p:Sta->Bool) (hob:ob.inbG 2=true) (hbs:inbL 2 bs=true) (hbf:bs.all AV.free=true) (n:Int) (X:List D) (hX:x.map dSta=X) (hn:(X.length:Int)=n) (hnb:n<=9223372036854775807)
  (hp : ∀ l∈x,ACall P f (.d (dSta l)::bs) [ob,.arr 3 X] (AB (p l)) [ob,.arr 3 X]):ACall P 122 [.mref 1 3 0 n,.func f [] bs] [ob,.arr 3 X] (AI (match x.findIdx? p with | some i=>(i:Int) | none => -1)) [ob,.arr 3 X]:=by
 have hin:objsInb 2 [ob,.arr 3 X]=true:=objsG hob rfl
 have hxl:(x.length:Int)=n:=by rw [<-hn,<-hX];simp
 refine ACall.enter hT (fn:=Try.f122) Try.func122 rfl (by decide) (by simp [Try.f122]) rfl rfl rfl hin (Nat.le_refl _) ?_
 repeat refine AWp.seq ?_
 refine AWp.reg1 {} hT (fun A hA=>by cbv) (Nat.le_of_ble_eq_true rfl) ?_
 try dsimp only [AExit.then,AExit.block]
 repeat refine AWp.seq ?_
 refine AWp.reg1 {} hT (fun A hA=>by cbv) (Nat.le_of_ble_eq_true rfl) ?_
 try dsimp only [AExit.then,AExit.block]
 refine AWp.block (AWp.loopInv (ι:=Int) (fun z=>0<=z/\z<=n /\ ∀ l∈x.take z.toNat,p l=false) (fun z=>(n-z).toNat) [0,1,6,7,8]
  (fun z=>{ env:=[(0,.mref 1 3 0 n),(1,.func f [] bs),(6,.mref 1 3 0 n),(7,AI n),(8,AI z)],heap:=[ob,.arr 3 X],n:=19 }) 0 (by cbv) ⟨Int.le_refl _,by omega,by simp⟩ ?_)
 rintro z ⟨h0,h1,h2⟩
 by_cases hz:z<n
 ·obtain ⟨L,hL⟩ : ∃ L,x[z.toNat]?=some L:=⟨_,zp1 (by omega)⟩
  have hLm:=hp L (List.mem_of_getElem? hL)
  have hXt:X[z.toNat]?=some (dSta L):=by rw [<-hX,List.getElem?_map,hL];rfl
  obtain ⟨b,hb⟩ : ∃ b,p L=b:=⟨_,rfl⟩
  rw [hb] at hLm
  obtain ⟨t,a,c⟩:=L
  unfold dSta at hXt hLm
  dsimp only at hXt hLm
  obtain ⟨z1,hz1⟩ : ∃ z1,z+1=z1:=⟨_,rfl⟩
  repeat refine AWp.seq ?_
  refine AWp.reg1 {} hT (fun A hA=>by
    have f0:=ar_lt hA hz
    repeat (cbv;simp only [f0])
    cbv) (Nat.le_of_ble_eq_true rfl) ?_
  try dsimp only [AExit.then,AExit.block]
  repeat refine AWp.seq ?_
  refine AWp.cond (b:=true) rfl (AWp.skip ?_)
  try dsimp only [AExit.then,AExit.block]
  repeat refine AWp.seq ?_
  refine AWp.block ?_
  repeat refine AWp.seq ?_
  refine AWp.reg1 {} hT (fun A hA=>by cbv) (Nat.le_of_ble_eq_true rfl) ?_
  try dsimp only [AExit.then,AExit.block]
  repeat refine AWp.seq ?_
  refine AWp.region ?_
  refine AOps.stepCallW hT (an:={}) (fun A hA=>by
    have f0:=ar_get hA hXt
    have f1:=ar_le hA h0
    have f2:=ar_lt hA hz
    have f3:=ar_zadd0 hA z
    repeat (cbv;simp only [f0,f1,f2,f3])
    cbv) (Nat.le_of_ble_eq_true rfl) (by first | rfl | exact hin) (by first | rfl | simp [inbL,AV.inb,hbs]) rfl (Nat.le_of_ble_eq_true rfl) rfl (by first | rfl | simp [AV.free,hbf]) (hLm) ?_
  refine AOps.done hT (an:={}) (fun A hA=>by cbv) (Nat.le_of_ble_eq_true rfl) ?_
  try dsimp only [AExit.then,AExit.block]
  cases b with
  | true =>
    repeat refine AWp.seq ?_
    refine AWp.cond (b:=true) rfl ?_
    rw [if_pos rfl]
    repeat refine AWp.seq ?_
    refine AWp.reg1 {} hT (fun A hA=>by cbv) (Nat.le_of_ble_eq_true rfl) ?_
    try dsimp only [AExit.then,AExit.block]
    refine AWp.ret ⟨?_,rfl,hin,Nat.le_refl _,[],by simp⟩
    have:x.findIdx? p=some z.toNat:=by
     rw [List.findIdx?_eq_some_iff_getElem]
     refine ⟨by omega,?_,fun j hj => ?_⟩
     ·rw [zp1 (by omega)] at hL;injection hL with hL;rw [hL];exact hb
     ·have:=h2 x[j] (by rw [List.mem_take_iff_getElem];exact ⟨j,by omega,rfl⟩)
      simp [this]
    rw [this]
    show _=some (AI (z.toNat:Int))
    rw [show (z.toNat:Int)=z by omega]
    rfl
  | false =>
    repeat refine AWp.seq ?_
    refine AWp.cond (b:=false) rfl (AWp.skip ?_)
    try dsimp only [AExit.then,AExit.block]
    repeat refine AWp.seq ?_
    refine AWp.reg1 {} hT (fun A hA=>by
      have f0:=ar_add hA z 1 z1 hz1 (by omega) (by omega)
      repeat (cbv;simp only [f0])
      cbv) (Nat.le_of_ble_eq_true rfl) ?_
    try dsimp only [AExit.then,AExit.block]
    refine ⟨z1,⟨by omega,by omega,?_⟩,by omega,by cbv⟩
    intro l hl
    rw [show z1.toNat=z.toNat+1 by omega,List.take_add_one,hL] at hl
    simp at hl
    rcases hl with hl | rfl
    ·exact h2 l hl
    ·exact hb
 ·repeat refine AWp.seq ?_
  refine AWp.reg1 {} hT (fun A hA=>by
    have f0:=ar_nlt hA hz
    repeat (cbv;simp only [f0])
    cbv) (Nat.le_of_ble_eq_true rfl) ?_
  try dsimp only [AExit.then,AExit.block]
  repeat refine AWp.seq ?_
  refine AWp.cond (b:=false) rfl (AWp.exit ?_)
  try dsimp only [AExit.then,AExit.block]
  rw [if_pos rfl]
  repeat refine AWp.seq ?_
  refine AWp.reg1 {} hT (fun A hA=>by cbv) (Nat.le_of_ble_eq_true rfl) ?_
  try dsimp only [AExit.then,AExit.block]
  refine AWp.ret ⟨?_,rfl,hin,Nat.le_refl _,[],by simp⟩
  have:x.findIdx? p=none:=by
   rw [List.findIdx?_eq_none_iff]
   intro y hy
   exact h2 y (by rw [List.take_of_length_le (by omega)];exact hy)
  rw [this]
  rfl
theorem delete98m (x:List Sta) (f:FuncId) (bs:List AV) (ob:Obj) (p:Sta->Bool) (hob:ob.inbG 2=true) (hbs:inbL 2 bs=true) (hbf:bs.all AV.free=true) (n:Int) (hn:(x.length:Int)=n) (hnb:n<=9223372036854775807)
  (hp : ∀ l∈x,∀ X,ACall P f (.d (dSta l)::bs) [ob,.arr 3 X] (AB (p l)) [ob,.arr 3 X]) :
  ∃ (m:Int) (Y:List D),0<=m/\m<=Y.length/\Y.take m.toNat=(x.filter fun s => !p s).map dSta/\ACall P 86 [.mref 1 3 0 n,.func f [] bs] [ob,.arr 3 (x.map dSta)] (.mref 1 3 0 m) [ob,.arr 3 Y]:=by
 have hinA : ∀ X,objsInb 2 [ob,.arr 3 X]=true:=fun X=>objsG hob rfl
 have hix:=index98m x f bs ob p hob hbs hbf n (x.map dSta) rfl (by simpa using hn) hnb (fun l hl=>hp l hl _)
 cases hfi:x.findIdx? p with
 | none =>
   rw [hfi] at hix
   have hall:x.filter (fun s => !p s)=x:=by
    rw [List.filter_eq_self]
    rw [List.findIdx?_eq_none_iff] at hfi
    intro a ha;simp [hfi a ha]
   refine ⟨n,x.map dSta,by omega,by simp;omega,by rw [hall,List.take_of_length_le (by simp;omega)],?_⟩
   obtain ⟨X,hX⟩ : ∃ X,x.map dSta=X:=⟨_,rfl⟩
   rw [hX] at hix ⊢
   have hin:=hinA X
   refine ACall.enter hT (fn:=Try.f86) Try.func86 rfl (by decide) (by simp [Try.f86]) rfl rfl rfl hin (Nat.le_refl _) ?_
   repeat refine AWp.seq ?_
   refine AWp.reg1 {} hT (fun A hA=>by cbv) (Nat.le_of_ble_eq_true rfl) ?_
   try dsimp only [AExit.then,AExit.block]
   repeat refine AWp.seq ?_
   refine AWp.region ?_
   refine AOps.stepCallW hT (an:={}) (fun A hA=>by cbv) (Nat.le_of_ble_eq_true rfl) (by first | rfl | exact hin) (by first | rfl | simp [inbL,AV.inb,hbs]) rfl (Nat.le_of_ble_eq_true rfl) rfl (by first | rfl | simp [AV.free,hbf]) (hix) ?_
   refine AOps.done hT (an:={}) (fun A hA=>by cbv) (Nat.le_of_ble_eq_true rfl) ?_
   try dsimp only [AExit.then,AExit.block]
   repeat refine AWp.seq ?_
   refine AWp.reg1 {} hT (fun A hA=>by
     have f0:=ar_eq hA (rfl:(-1:Int) = -1)
     repeat (cbv;simp only [f0])
     cbv) (Nat.le_of_ble_eq_true rfl) ?_
   try dsimp only [AExit.then,AExit.block]
   repeat refine AWp.seq ?_
   refine AWp.cond (b:=true) rfl ?_
   rw [if_pos rfl]
   repeat refine AWp.seq ?_
   refine AWp.reg1 {} hT (fun A hA=>by cbv) (Nat.le_of_ble_eq_true rfl) ?_
   try dsimp only [AExit.then,AExit.block]
   refine AWp.ret ⟨rfl,rfl,hin,Nat.le_refl _,[],by simp⟩
 | some i0 =>
   rw [hfi] at hix
   obtain ⟨hi0,hpi,hbefore⟩:=List.findIdx?_eq_some_iff_getElem.1 hfi
   let q:Sta->Bool:=fun s => !p s
   have hq : ∀ s,(!p s)=q s:=fun _=>rfl
   have hpq : ∀ s,p s = !q s:=fun s=>by simp [q]

   refine ⟨((x.filter q).length:Int),(x.filter q).map dSta++List.replicate (x.length-(x.filter q).length) (.agg [I 0,I 0,I 0]),by omega,by simp;omega,by simp only [Int.toNat_natCast];rw [List.take_left' (by simp)],?_⟩
   obtain ⟨z0,hz0⟩ : ∃ z0:Int,(i0:Int)=z0:=⟨_,rfl⟩
   dsimp only at hix
   rw [hz0] at hix
   obtain ⟨X,hX⟩ : ∃ X,x.map dSta=X:=⟨_,rfl⟩
   obtain ⟨m,hm⟩ : ∃ m:Int,((x.filter q).length:Int)=m:=⟨_,rfl⟩
   obtain ⟨Y,hY⟩ : ∃ Y,(x.filter q).map dSta++List.replicate (x.length-(x.filter q).length) (.agg [I 0,I 0,I 0])=Y:=⟨_,rfl⟩
   rw [hX] at hix ⊢
   rw [hm,hY]
   have hin:=hinA X
   have hinY:=hinA Y
   obtain ⟨z1,hz1⟩ : ∃ z1,z0+1=z1:=⟨_,rfl⟩
   have hne : ¬ z0 = -1:=by omega
   refine ACall.enter hT (fn:=Try.f86) Try.func86 rfl (by decide) (by simp [Try.f86]) rfl rfl rfl hin (Nat.le_of_ble_eq_true rfl) ?_
   repeat refine AWp.seq ?_
   refine AWp.reg1 {} hT (fun A hA=>by cbv) (Nat.le_of_ble_eq_true rfl) ?_
   try dsimp only [AExit.then,AExit.block]
   repeat refine AWp.seq ?_
   refine AWp.region ?_
   refine AOps.stepCallW hT (an:={}) (fun A hA=>by cbv) (Nat.le_of_ble_eq_true rfl) (by first | rfl | exact hin) (by first | rfl | simp [inbL,AV.inb,hbs]) rfl (Nat.le_of_ble_eq_true rfl) rfl (by first | rfl | simp [AV.free,hbf]) (hix) ?_
   refine AOps.done hT (an:={}) (fun A hA=>by cbv) (Nat.le_of_ble_eq_true rfl) ?_
   try dsimp only [AExit.then,AExit.block]
   repeat refine AWp.seq ?_
   refine AWp.reg1 {} hT (fun A hA=>by
     have f0:=ar_ne hA hne
     repeat (cbv;simp only [f0])
     cbv) (Nat.le_of_ble_eq_true rfl) ?_
   try dsimp only [AExit.then,AExit.block]
   repeat refine AWp.seq ?_
   refine AWp.cond (b:=false) rfl (AWp.skip ?_)
   try dsimp only [AExit.then,AExit.block]
   repeat refine AWp.seq ?_
   refine AWp.reg1 {} hT (fun A hA=>by
     have f0:=ar_add hA z0 1 z1 hz1 (by omega) (by omega)
     repeat (cbv;simp only [f0])
     cbv) (Nat.le_of_ble_eq_true rfl) ?_
   try dsimp only [AExit.then,AExit.block]
   refine AWp.block (AWp.loopInv (ι:=List Sta×List D×Int×Int)
    (fun I=>I.1.map dSta=I.2.1/\(I.1.length:Int)=n/\0<=I.2.2.1/\I.2.2.1<I.2.2.2/\I.2.2.2<=n/\I.1.take I.2.2.1.toNat=(x.take I.2.2.2.toNat).filter q/\I.1.drop I.2.2.2.toNat=x.drop I.2.2.2.toNat)
    (fun I=>(n-I.2.2.2).toNat) [0,1,5,6]
    (fun I=>{ env:=[(0,.mref 1 3 0 n),(1,.func f [] bs),(5,AI I.2.2.1),(6,AI I.2.2.2)],heap:=[ob,.arr 3 I.2.1],n:=42 }) (x,X,z0,z1) (by cbv) ⟨hX,hn,by dsimp only;omega,by dsimp only;omega,by dsimp only;omega,?_,rfl⟩ ?_)
   ·dsimp only
    rw [<-hz1,<-hz0,show ((i0:Int)+1).toNat=i0+1 by omega,show ((i0:Int)).toNat=i0 by omega,List.take_add_one,zp1 hi0,List.filter_append]
    rw [List.filter_eq_self.2 (fun a ha=>by
     obtain ⟨j,hj,rfl⟩:=List.mem_take_iff_getElem.1 ha
     have:=hbefore j (by omega)
     rw [<-hq];simpa using this)]
    simp [q,hpi]
   ·rintro ⟨l,L,i,j⟩ ⟨g1,g2,g3,g4,g5,g6,g7⟩
    dsimp only at g1 g2 g3 g4 g5 g6 g7 ⊢
    have hLl:(L.length:Int)=n:=by rw [<-g1];simpa using g2
    by_cases hj:j<n
    ·obtain ⟨s,hs⟩ : ∃ s,x[j.toNat]?=some s:=⟨_,zp1 (by omega)⟩
     have hls:l[j.toNat]?=some s:=by
      have:=congrArg (fun l=>l[0]?) g7
      simp only [List.getElem?_drop,Nat.add_zero] at this
      rw [this,hs]
     have hLs:L[j.toNat]?=some (dSta s):=by rw [<-g1,List.getElem?_map,hls];rfl
     have hsm:=hp s (List.mem_of_getElem? hs) L
     obtain ⟨b,hb⟩ : ∃ b,p s=b:=⟨_,rfl⟩
     rw [hb] at hsm
     obtain ⟨j1,hj1⟩ : ∃ j1,j+1=j1:=⟨_,rfl⟩
     obtain ⟨i1,hi1⟩ : ∃ i1,i+1=i1:=⟨_,rfl⟩
     obtain ⟨y0,hy0⟩ : ∃ y,L[i.toNat]?=some y:=⟨_,zp1 (by omega)⟩
     obtain ⟨L',hL'⟩ : ∃ L',L.set i.toNat (dSta s)=L':=⟨_,rfl⟩
     have hset : ∀ A:Ar,A=Ar.std->A.lset L (A.nat i) (dSta s)=L':=fun A hA=>by subst hA;exact hL'
     have hlm:L'=(l.set i.toNat s).map dSta:=by rw [<-hL',<-g1,List.map_set]
     have hin:=hinA L
     have hx1:(x.take j1.toNat).filter q=(x.take j.toNat).filter q++[s].filter q:=by
      rw [show j1.toNat=j.toNat+1 by omega,List.take_add_one,hs,List.filter_append];rfl
     obtain ⟨t,a,c⟩:=s
     unfold dSta at hLs hsm hset
     dsimp only at hLs hsm hset
     repeat refine AWp.seq ?_
     refine AWp.reg1 {} hT (fun A hA=>by
       have f0:=ar_lt hA hj
       repeat (cbv;simp only [f0])
       cbv) (Nat.le_of_ble_eq_true rfl) ?_
     try dsimp only [AExit.then,AExit.block]
     repeat refine AWp.seq ?_
     refine AWp.cond (b:=true) rfl (AWp.skip ?_)
     try dsimp only [AExit.then,AExit.block]
     repeat refine AWp.seq ?_
     refine AWp.block ?_
     repeat refine AWp.seq ?_
     refine AWp.reg1 {} hT (fun A hA=>by
       have f0:=ar_get hA hLs
       have f1:=ar_le hA (show (0:Int)<=j by omega)
       have f2:=ar_lt hA hj
       have f3:=ar_zadd0 hA j
       repeat (cbv;simp only [f0,f1,f2,f3])
       cbv) (Nat.le_of_ble_eq_true rfl) ?_
     try dsimp only [AExit.then,AExit.block]
     repeat refine AWp.seq ?_
     refine AWp.region ?_
     refine AOps.stepCallW hT (an:={}) (fun A hA=>by cbv) (Nat.le_of_ble_eq_true rfl) (by first | rfl | exact hin) (by first | rfl | simp [inbL,AV.inb,hbs]) rfl (Nat.le_of_ble_eq_true rfl) rfl (by first | rfl | simp [AV.free,hbf]) (hsm) ?_
     refine AOps.done hT (an:={}) (fun A hA=>by cbv) (Nat.le_of_ble_eq_true rfl) ?_
     try dsimp only [AExit.then,AExit.block]
     cases b with
     | true =>
       repeat refine AWp.seq ?_
       refine AWp.cond (b:=false) rfl (AWp.skip ?_)
       try dsimp only [AExit.then,AExit.block]
       repeat refine AWp.seq ?_
       refine AWp.reg1 {} hT (fun A hA=>by
         have f0:=ar_add hA j 1 j1 hj1 (by omega) (by omega)
         repeat (cbv;simp only [f0])
         cbv) (Nat.le_of_ble_eq_true rfl) ?_
       try dsimp only [AExit.then,AExit.block]
       refine ⟨(l,L,i,j1),⟨g1,g2,g3,by dsimp only;omega,by dsimp only;omega,?_,?_⟩,by dsimp only;omega,by cbv⟩
       ·dsimp only
        rw [hx1,g6,List.filter_cons,if_neg (by rw [<-hq,hb];decide)];simp
       ·dsimp only
        rw [show j1.toNat=j.toNat+1 by omega,<-List.drop_drop,g7,List.drop_drop]
     | false =>
       repeat refine AWp.seq ?_
       refine AWp.cond (b:=true) rfl ?_
       rw [if_pos rfl]
       repeat refine AWp.seq ?_
       refine AWp.reg1 {} hT (fun A hA=>by
         have f0:=ar_get hA hy0
         have f1:=ar_le hA (show (0:Int)<=i by omega)
         have f2:=ar_lt hA (show i<n by omega)
         have f3:=ar_zadd0 hA i
         have f4:=hset A hA
         repeat (cbv;simp only [f0,f1,f2,f3,f4])
         cbv) (Nat.le_of_ble_eq_true rfl) ?_
       try dsimp only [AExit.then,AExit.block]
       repeat refine AWp.seq ?_
       refine AWp.reg1 {} hT (fun A hA=>by
         have f0:=ar_add hA i 1 i1 hi1 (by omega) (by omega)
         repeat (cbv;simp only [f0])
         cbv) (Nat.le_of_ble_eq_true rfl) ?_
       try dsimp only [AExit.then,AExit.block]
       repeat refine AWp.seq ?_
       refine AWp.reg1 {} hT (fun A hA=>by
         have f0:=ar_add hA j 1 j1 hj1 (by omega) (by omega)
         repeat (cbv;simp only [f0])
         cbv) (Nat.le_of_ble_eq_true rfl) ?_
       try dsimp only [AExit.then,AExit.block]
       refine ⟨(l.set i.toNat _,L',i1,j1),⟨hlm.symm,by simpa using g2,by dsimp only;omega,by dsimp only;omega,by dsimp only;omega,?_,?_⟩,by dsimp only;omega,by cbv⟩
       ·dsimp only
        have hil:i.toNat<l.length:=by omega
        rw [hx1,List.filter_cons,if_pos (by rw [<-hq,hb];decide),<-g6]
        rw [show i1.toNat=i.toNat+1 by omega,List.take_add_one,List.getElem?_set_self hil,List.take_set_of_le (Nat.le_refl _)]
        simp
       ·dsimp only
        rw [List.drop_set_of_lt (by omega),show j1.toNat=j.toNat+1 by omega,<-List.drop_drop,g7,List.drop_drop]
    ·repeat refine AWp.seq ?_
     refine AWp.reg1 {} hT (fun A hA=>by
       have f0:=ar_nlt hA hj
       repeat (cbv;simp only [f0])
       cbv) (Nat.le_of_ble_eq_true rfl) ?_
     try dsimp only [AExit.then,AExit.block]
     repeat refine AWp.seq ?_
     refine AWp.cond (b:=false) rfl (AWp.exit ?_)
     try dsimp only [AExit.then,AExit.block]
     rw [if_pos rfl]
     have hjn:j=n:=by omega
     subst hjn
     rw [List.take_of_length_le (by omega:x.length<=j.toNat)] at g6
     have him:i=m:=by
      have:=congrArg List.length g6
      rw [List.length_take] at this
      omega
     subst him
     obtain ⟨r,hr⟩ : ∃ r,j-i=r:=⟨_,rfl⟩
     have hfill : ∀ A:Ar,A=Ar.std->A.fill L i r (.agg [I 0,I 0,I 0])=Y:=fun A hA=>by
      subst hA
      show fillStd L i r _=Y
      unfold fillStd
      rw [<-hY,<-g1,<-List.map_take,g6,List.drop_of_length_le (by simp;omega),List.append_nil]
      congr 2
      omega
     have hsum : ∀ A:Ar,A=Ar.std->A.zadd i r=j:=fun A hA=>by subst hA;show i+r=j;omega
     have hsub : ∀ A:Ar,A=Ar.std->A.zsub j i=r:=fun A hA=>by subst hA;exact hr
     have hsub0 : ∀ A:Ar,A=Ar.std->A.zsub i 0=i:=fun A hA=>by subst hA;show i-0=i;omega
     have hadd0 : ∀ A:Ar,A=Ar.std->A.zadd 0 i=i:=fun A hA=>by subst hA;show 0+i=i;omega
     have hadd00 : ∀ A:Ar,A=Ar.std->A.zadd 0 0=0:=fun A hA=>by subst hA;rfl
     repeat refine AWp.seq ?_
     refine AWp.reg1 {} hT (fun A hA=>by
       have f0:=ar_le hA (show (0:Int)<=i by omega)
       have f1:=ar_le hA (show i<=j by omega)
       have f2:=ar_le hA (Int.le_refl j)
       have f3:=hsub A hA
       have f4:=hadd0 A hA
       have f5:=hsum A hA
       have f6:=ar_len hA L j hLl
       have f7:=hfill A hA
       repeat (cbv;simp only [f0,f1,f2,f3,f4,f5,f6,f7])
       cbv) (Nat.le_of_ble_eq_true rfl) ?_
     try dsimp only [AExit.then,AExit.block]
     repeat refine AWp.seq ?_
     refine AWp.reg1 {} hT (fun A hA=>by
       have f0:=ar_le hA (show (0:Int)<=i by omega)
       have f1:=ar_le hA (show i<=j by omega)
       have f2:=ar_le hA (Int.le_refl (0:Int))
       have f3:=hsub0 A hA
       have f4:=hadd00 A hA
       repeat (cbv;simp only [f0,f1,f2,f3,f4])
       cbv) (Nat.le_of_ble_eq_true rfl) ?_
     try dsimp only [AExit.then,AExit.block]
     refine AWp.ret ⟨rfl,rfl,hinY,Nat.le_refl _,[],by simp⟩
end Go.Am

namespace Go.Am
open Go Go.Proofs
theorem index98m3 (x:List Sta) (f:FuncId) (bs:List AV) (o0 o1 o2:Obj) (p:Sta->Bool) (hob0:o0.inbG 4=true) (hob1:o1.inbG 4=true) (hob2:o2.inbG 4=true) (hbs:inbL 4 bs=true) (hbf:bs.all AV.free=true) (n:Int) (X tl:List D) (hX:x.map dSta++tl=X) (hxl:(x.length:Int)=n) (hnb:n<=9223372036854775807)
  (hp : ∀ l∈x,ACall P f (.d (dSta l)::bs) [o0,o1,o2,.arr 3 X] (AB (p l)) [o0,o1,o2,.arr 3 X]):ACall P 122 [.mref 3 3 0 n,.func f [] bs] [o0,o1,o2,.arr 3 X] (AI (match x.findIdx? p with | some i=>(i:Int) | none => -1)) [o0,o1,o2,.arr 3 X]:=by
 have hin:objsInb 4 [o0,o1,o2,.arr 3 X]=true:=objsG hob0 (objsG hob1 (objsG hob2 rfl))
 refine ACall.enter hT (fn:=Try.f122) Try.func122 rfl (by decide) (by simp [Try.f122]) rfl rfl rfl hin (Nat.le_refl _) ?_
 repeat refine AWp.seq ?_
 refine AWp.reg1 {} hT (fun A hA=>by cbv) (Nat.le_of_ble_eq_true rfl) ?_
 try dsimp only [AExit.then,AExit.block]
 repeat refine AWp.seq ?_
 refine AWp.reg1 {} hT (fun A hA=>by cbv) (Nat.le_of_ble_eq_true rfl) ?_
 try dsimp only [AExit.then,AExit.block]
 refine AWp.block (AWp.loopInv (ι:=Int) (fun z=>0<=z/\z<=n /\ ∀ l∈x.take z.toNat,p l=false) (fun z=>(n-z).toNat) [0,1,6,7,8]
  (fun z=>{ env:=[(0,.mref 3 3 0 n),(1,.func f [] bs),(6,.mref 3 3 0 n),(7,AI n),(8,AI z)],heap:=[o0,o1,o2,.arr 3 X],n:=19 }) 0 (by cbv) ⟨Int.le_refl _,by omega,by simp⟩ ?_)
 rintro z ⟨h0,h1,h2⟩
 by_cases hz:z<n
 ·obtain ⟨L,hL⟩ : ∃ L,x[z.toNat]?=some L:=⟨_,zp1 (by omega)⟩
  have hLm:=hp L (List.mem_of_getElem? hL)
  have hXt:X[z.toNat]?=some (dSta L):=by rw [<-hX,zp7 (by simp;omega),List.getElem?_map,hL];rfl
  obtain ⟨b,hb⟩ : ∃ b,p L=b:=⟨_,rfl⟩
  rw [hb] at hLm
  obtain ⟨t,a,c⟩:=L
  unfold dSta at hXt hLm
  dsimp only at hXt hLm
  obtain ⟨z1,hz1⟩ : ∃ z1,z+1=z1:=⟨_,rfl⟩
  repeat refine AWp.seq ?_
  refine AWp.reg1 {} hT (fun A hA=>by
    have f0:=ar_lt hA hz
    repeat (cbv;simp only [f0])
    cbv) (Nat.le_of_ble_eq_true rfl) ?_
  try dsimp only [AExit.then,AExit.block]
  repeat refine AWp.seq ?_
  refine AWp.cond (b:=true) rfl (AWp.skip ?_)
  try dsimp only [AExit.then,AExit.block]
  repeat refine AWp.seq ?_
  refine AWp.block ?_
  repeat refine AWp.seq ?_
  refine AWp.reg1 {} hT (fun A hA=>by cbv) (Nat.le_of_ble_eq_true rfl) ?_
  try dsimp only [AExit.then,AExit.block]
  repeat refine AWp.seq ?_
  refine AWp.region ?_
  refine AOps.stepCallW hT (an:={}) (fun A hA=>by
    have f0:=ar_get hA hXt
    have f1:=ar_le hA h0
    have f2:=ar_lt hA hz
    have f3:=ar_zadd0 hA z
    repeat (cbv;simp only [f0,f1,f2,f3])
    cbv) (Nat.le_of_ble_eq_true rfl) (by first | rfl | exact hin) (by first | rfl | simp [inbL,AV.inb,hbs]) rfl (Nat.le_of_ble_eq_true rfl) rfl (by first | rfl | simp [AV.free,hbf]) (hLm) ?_
  refine AOps.done hT (an:={}) (fun A hA=>by cbv) (Nat.le_of_ble_eq_true rfl) ?_
  try dsimp only [AExit.then,AExit.block]
  cases b with
  | true =>
    repeat refine AWp.seq ?_
    refine AWp.cond (b:=true) rfl ?_
    rw [if_pos rfl]
    repeat refine AWp.seq ?_
    refine AWp.reg1 {} hT (fun A hA=>by cbv) (Nat.le_of_ble_eq_true rfl) ?_
    try dsimp only [AExit.then,AExit.block]
    refine AWp.ret ⟨?_,rfl,hin,Nat.le_refl _,[],by simp⟩
    have:x.findIdx? p=some z.toNat:=by
     rw [List.findIdx?_eq_some_iff_getElem]
     refine ⟨by omega,?_,fun j hj => ?_⟩
     ·rw [zp1 (by omega)] at hL;injection hL with hL;rw [hL];exact hb
     ·have:=h2 x[j] (by rw [List.mem_take_iff_getElem];exact ⟨j,by omega,rfl⟩)
      simp [this]
    rw [this]
    show _=some (AI (z.toNat:Int))
    rw [show (z.toNat:Int)=z by omega]
    rfl
  | false =>
    repeat refine AWp.seq ?_
    refine AWp.cond (b:=false) rfl (AWp.skip ?_)
    try dsimp only [AExit.then,AExit.block]
    repeat refine AWp.seq ?_
    refine AWp.reg1 {} hT (fun A hA=>by
      have f0:=ar_add hA z 1 z1 hz1 (by omega) (by omega)
      repeat (cbv;simp only [f0])
      cbv) (Nat.le_of_ble_eq_true rfl) ?_
    try dsimp only [AExit.then,AExit.block]
    refine ⟨z1,⟨by omega,by omega,?_⟩,by omega,by cbv⟩
    intro l hl
    rw [show z1.toNat=z.toNat+1 by omega,List.take_add_one,hL] at hl
    simp at hl
    rcases hl with hl | rfl
    ·exact h2 l hl
    ·exact hb
 ·repeat refine AWp.seq ?_
  refine AWp.reg1 {} hT (fun A hA=>by
    have f0:=ar_nlt hA hz
    repeat (cbv;simp only [f0])
    cbv) (Nat.le_of_ble_eq_true rfl) ?_
  try dsimp only [AExit.then,AExit.block]
  repeat refine AWp.seq ?_
  refine AWp.cond (b:=false) rfl (AWp.exit ?_)
  try dsimp only [AExit.then,AExit.block]
  rw [if_pos rfl]
  repeat refine AWp.seq ?_
  refine AWp.reg1 {} hT (fun A hA=>by cbv) (Nat.le_of_ble_eq_true rfl) ?_
  try dsimp only [AExit.then,AExit.block]
  refine AWp.ret ⟨?_,rfl,hin,Nat.le_refl _,[],by simp⟩
  have:x.findIdx? p=none:=by
   rw [List.findIdx?_eq_none_iff]
   intro y hy
   exact h2 y (by rw [List.take_of_length_le (by omega)];exact hy)
  rw [this]
  rfl
theorem delete98m3 (x:List Sta) (f:FuncId) (bs:List AV) (o0 o1 o2:Obj) (p:Sta->Bool) (hob0:o0.inbG 4=true) (hob1:o1.inbG 4=true) (hob2:o2.inbG 4=true) (hbs:inbL 4 bs=true) (hbf:bs.all AV.free=true) (n:Int) (hn:(x.length:Int)=n) (hnb:n<=9223372036854775807) (tl:List D)
  (hp : ∀ l∈x,∀ X,ACall P f (.d (dSta l)::bs) [o0,o1,o2,.arr 3 X] (AB (p l)) [o0,o1,o2,.arr 3 X]) :
  ∃ (m:Int) (Y:List D),0<=m/\m<=Y.length/\Y.take m.toNat=(x.filter fun s => !p s).map dSta/\ACall P 86 [.mref 3 3 0 n,.func f [] bs] [o0,o1,o2,.arr 3 (x.map dSta++tl)] (.mref 3 3 0 m) [o0,o1,o2,.arr 3 Y]:=by
 have hinA : ∀ X,objsInb 4 [o0,o1,o2,.arr 3 X]=true:=fun X=>objsG hob0 (objsG hob1 (objsG hob2 rfl))
 have hix:=index98m3 x f bs o0 o1 o2 p hob0 hob1 hob2 hbs hbf n (x.map dSta++tl) tl rfl hn hnb (fun l hl=>hp l hl _)
 cases hfi:x.findIdx? p with
 | none =>
   rw [hfi] at hix
   have hall:x.filter (fun s => !p s)=x:=by
    rw [List.filter_eq_self]
    rw [List.findIdx?_eq_none_iff] at hfi
    intro a ha;simp [hfi a ha]
   refine ⟨n,x.map dSta++tl,by omega,by simp;omega,by rw [hall,List.take_left' (by simp;omega)],?_⟩
   obtain ⟨X,hX⟩ : ∃ X,x.map dSta++tl=X:=⟨_,rfl⟩
   rw [hX] at hix ⊢
   have hin:=hinA X
   refine ACall.enter hT (fn:=Try.f86) Try.func86 rfl (by decide) (by simp [Try.f86]) rfl rfl rfl hin (Nat.le_refl _) ?_
   repeat refine AWp.seq ?_
   refine AWp.reg1 {} hT (fun A hA=>by cbv) (Nat.le_of_ble_eq_true rfl) ?_
   try dsimp only [AExit.then,AExit.block]
   repeat refine AWp.seq ?_
   refine AWp.region ?_
   refine AOps.stepCallW hT (an:={}) (fun A hA=>by cbv) (Nat.le_of_ble_eq_true rfl) (by first | rfl | exact hin) (by first | rfl | simp [inbL,AV.inb,hbs]) rfl (Nat.le_of_ble_eq_true rfl) rfl (by first | rfl | simp [AV.free,hbf]) (hix) ?_
   refine AOps.done hT (an:={}) (fun A hA=>by cbv) (Nat.le_of_ble_eq_true rfl) ?_
   try dsimp only [AExit.then,AExit.block]
   repeat refine AWp.seq ?_
   refine AWp.reg1 {} hT (fun A hA=>by
     have f0:=ar_eq hA (rfl:(-1:Int) = -1)
     repeat (cbv;simp only [f0])
     cbv) (Nat.le_of_ble_eq_true rfl) ?_
   try dsimp only [AExit.then,AExit.block]
   repeat refine AWp.seq ?_
   refine AWp.cond (b:=true) rfl ?_
   rw [if_pos rfl]
   repeat refine AWp.seq ?_
   refine AWp.reg1 {} hT (fun A hA=>by cbv) (Nat.le_of_ble_eq_true rfl) ?_
   try dsimp only [AExit.then,AExit.block]
   refine AWp.ret ⟨rfl,rfl,hin,Nat.le_refl _,[],by simp⟩
 | some i0 =>
   rw [hfi] at hix
   obtain ⟨hi0,hpi,hbefore⟩:=List.findIdx?_eq_some_iff_getElem.1 hfi
   let q:Sta->Bool:=fun s => !p s
   have hq : ∀ s,(!p s)=q s:=fun _=>rfl
   have hpq : ∀ s,p s = !q s:=fun s=>by simp [q]

   refine ⟨((x.filter q).length:Int),(x.filter q).map dSta++(List.replicate (x.length-(x.filter q).length) (.agg [I 0,I 0,I 0])++tl),by omega,by simp;omega,by simp only [Int.toNat_natCast];rw [List.take_left' (by simp)],?_⟩
   obtain ⟨z0,hz0⟩ : ∃ z0:Int,(i0:Int)=z0:=⟨_,rfl⟩
   dsimp only at hix
   rw [hz0] at hix
   obtain ⟨X,hX⟩ : ∃ X,x.map dSta++tl=X:=⟨_,rfl⟩
   obtain ⟨m,hm⟩ : ∃ m:Int,((x.filter q).length:Int)=m:=⟨_,rfl⟩
   obtain ⟨Y,hY⟩ : ∃ Y,(x.filter q).map dSta++(List.replicate (x.length-(x.filter q).length) (.agg [I 0,I 0,I 0])++tl)=Y:=⟨_,rfl⟩
   rw [hX] at hix ⊢
   rw [hm,hY]
   have hin:=hinA X
   have hinY:=hinA Y
   obtain ⟨z1,hz1⟩ : ∃ z1,z0+1=z1:=⟨_,rfl⟩
   have hne : ¬ z0 = -1:=by omega
   refine ACall.enter hT (fn:=Try.f86) Try.func86 rfl (by decide) (by simp [Try.f86]) rfl rfl rfl hin (Nat.le_of_ble_eq_true rfl) ?_
   repeat refine AWp.seq ?_
   refine AWp.reg1 {} hT (fun A hA=>by cbv) (Nat.le_of_ble_eq_true rfl) ?_
   try dsimp only [AExit.then,AExit.block]
   repeat refine AWp.seq ?_
   refine AWp.region ?_
   refine AOps.stepCallW hT (an:={}) (fun A hA=>by cbv) (Nat.le_of_ble_eq_true rfl) (by first | rfl | exact hin) (by first | rfl | simp [inbL,AV.inb,hbs]) rfl (Nat.le_of_ble_eq_true rfl) rfl (by first | rfl | simp [AV.free,hbf]) (hix) ?_
   refine AOps.done hT (an:={}) (fun A hA=>by cbv) (Nat.le_of_ble_eq_true rfl) ?_
   try dsimp only [AExit.then,AExit.block]
   repeat refine AWp.seq ?_
   refine AWp.reg1 {} hT (fun A hA=>by
     have f0:=ar_ne hA hne
     repeat (cbv;simp only [f0])
     cbv) (Nat.le_of_ble_eq_true rfl) ?_
   try dsimp only [AExit.then,AExit.block]
   repeat refine AWp.seq ?_
   refine AWp.cond (b:=false) rfl (AWp.skip ?_)
   try dsimp only [AExit.then,AExit.block]
   repeat refine AWp.seq ?_
   refine AWp.reg1 {} hT (fun A hA=>by
     have f0:=ar_add hA z0 1 z1 hz1 (by omega) (by omega)
     repeat (cbv;simp only [f0])
     cbv) (Nat.le_of_ble_eq_true rfl) ?_
   try dsimp only [AExit.then,AExit.block]
   refine AWp.block (AWp.loopInv (ι:=List Sta×List D×Int×Int)
    (fun I=>I.1.map dSta++tl=I.2.1/\(I.1.length:Int)=n/\0<=I.2.2.1/\I.2.2.1<I.2.2.2/\I.2.2.2<=n/\I.1.take I.2.2.1.toNat=(x.take I.2.2.2.toNat).filter q/\I.1.drop I.2.2.2.toNat=x.drop I.2.2.2.toNat)
    (fun I=>(n-I.2.2.2).toNat) [0,1,5,6]
    (fun I=>{ env:=[(0,.mref 3 3 0 n),(1,.func f [] bs),(5,AI I.2.2.1),(6,AI I.2.2.2)],heap:=[o0,o1,o2,.arr 3 I.2.1],n:=42 }) (x,X,z0,z1) (by cbv) ⟨hX,hn,by dsimp only;omega,by dsimp only;omega,by dsimp only;omega,?_,rfl⟩ ?_)
   ·dsimp only
    rw [<-hz1,<-hz0,show ((i0:Int)+1).toNat=i0+1 by omega,show ((i0:Int)).toNat=i0 by omega,List.take_add_one,zp1 hi0,List.filter_append]
    rw [List.filter_eq_self.2 (fun a ha=>by
     obtain ⟨j,hj,rfl⟩:=List.mem_take_iff_getElem.1 ha
     have:=hbefore j (by omega)
     rw [<-hq];simpa using this)]
    simp [q,hpi]
   ·rintro ⟨l,L,i,j⟩ ⟨g1,g2,g3,g4,g5,g6,g7⟩
    dsimp only at g1 g2 g3 g4 g5 g6 g7 ⊢
    obtain ⟨NL,hLl⟩ : ∃ NL:Int,(L.length:Int)=NL:=⟨_,rfl⟩
    have hNL:n<=NL:=by rw [<-hLl,<-g1];simp;omega
    by_cases hj:j<n
    ·obtain ⟨s,hs⟩ : ∃ s,x[j.toNat]?=some s:=⟨_,zp1 (by omega)⟩
     have hls:l[j.toNat]?=some s:=by
      have:=congrArg (fun l=>l[0]?) g7
      simp only [List.getElem?_drop,Nat.add_zero] at this
      rw [this,hs]
     have hLs:L[j.toNat]?=some (dSta s):=by rw [<-g1,zp7 (by simp;omega),List.getElem?_map,hls];rfl
     have hsm:=hp s (List.mem_of_getElem? hs) L
     obtain ⟨b,hb⟩ : ∃ b,p s=b:=⟨_,rfl⟩
     rw [hb] at hsm
     obtain ⟨j1,hj1⟩ : ∃ j1,j+1=j1:=⟨_,rfl⟩
     obtain ⟨i1,hi1⟩ : ∃ i1,i+1=i1:=⟨_,rfl⟩
     obtain ⟨y0,hy0⟩ : ∃ y,L[i.toNat]?=some y:=⟨_,zp1 (by omega)⟩
     obtain ⟨L',hL'⟩ : ∃ L',L.set i.toNat (dSta s)=L':=⟨_,rfl⟩
     have hset : ∀ A:Ar,A=Ar.std->A.lset L (A.nat i) (dSta s)=L':=fun A hA=>by subst hA;exact hL'
     have hlm:L'=(l.set i.toNat s).map dSta++tl:=by rw [<-hL',<-g1,List.map_set,List.set_append_left _ _ (by simp;omega)]
     have hin:=hinA L
     have hx1:(x.take j1.toNat).filter q=(x.take j.toNat).filter q++[s].filter q:=by
      rw [show j1.toNat=j.toNat+1 by omega,List.take_add_one,hs,List.filter_append];rfl
     obtain ⟨t,a,c⟩:=s
     unfold dSta at hLs hsm hset
     dsimp only at hLs hsm hset
     repeat refine AWp.seq ?_
     refine AWp.reg1 {} hT (fun A hA=>by
       have f0:=ar_lt hA hj
       repeat (cbv;simp only [f0])
       cbv) (Nat.le_of_ble_eq_true rfl) ?_
     try dsimp only [AExit.then,AExit.block]
     repeat refine AWp.seq ?_
     refine AWp.cond (b:=true) rfl (AWp.skip ?_)
     try dsimp only [AExit.then,AExit.block]
     repeat refine AWp.seq ?_
     refine AWp.block ?_
     repeat refine AWp.seq ?_
     refine AWp.reg1 {} hT (fun A hA=>by
       have f0:=ar_get hA hLs
       have f1:=ar_le hA (show (0:Int)<=j by omega)
       have f2:=ar_lt hA hj
       have f3:=ar_zadd0 hA j
       repeat (cbv;simp only [f0,f1,f2,f3])
       cbv) (Nat.le_of_ble_eq_true rfl) ?_
     try dsimp only [AExit.then,AExit.block]
     repeat refine AWp.seq ?_
     refine AWp.region ?_
     refine AOps.stepCallW hT (an:={}) (fun A hA=>by cbv) (Nat.le_of_ble_eq_true rfl) (by first | rfl | exact hin) (by first | rfl | simp [inbL,AV.inb,hbs]) rfl (Nat.le_of_ble_eq_true rfl) rfl (by first | rfl | simp [AV.free,hbf]) (hsm) ?_
     refine AOps.done hT (an:={}) (fun A hA=>by cbv) (Nat.le_of_ble_eq_true rfl) ?_
     try dsimp only [AExit.then,AExit.block]
     cases b with
     | true =>
       repeat refine AWp.seq ?_
       refine AWp.cond (b:=false) rfl (AWp.skip ?_)
       try dsimp only [AExit.then,AExit.block]
       repeat refine AWp.seq ?_
       refine AWp.reg1 {} hT (fun A hA=>by
         have f0:=ar_add hA j 1 j1 hj1 (by omega) (by omega)
         repeat (cbv;simp only [f0])
         cbv) (Nat.le_of_ble_eq_true rfl) ?_
       try dsimp only [AExit.then,AExit.block]
       refine ⟨(l,L,i,j1),⟨g1,g2,g3,by dsimp only;omega,by dsimp only;omega,?_,?_⟩,by dsimp only;omega,by cbv⟩
       ·dsimp only
        rw [hx1,g6,List.filter_cons,if_neg (by rw [<-hq,hb];decide)];simp
       ·dsimp only
        rw [show j1.toNat=j.toNat+1 by omega,<-List.drop_drop,g7,List.drop_drop]
     | false =>
       repeat refine AWp.seq ?_
       refine AWp.cond (b:=true) rfl ?_
       rw [if_pos rfl]
       repeat refine AWp.seq ?_
       refine AWp.reg1 {} hT (fun A hA=>by
         have f0:=ar_get hA hy0
         have f1:=ar_le hA (show (0:Int)<=i by omega)
         have f2:=ar_lt hA (show i<n by omega)
         have f3:=ar_zadd0 hA i
         have f4:=hset A hA
         repeat (cbv;simp only [f0,f1,f2,f3,f4])
         cbv) (Nat.le_of_ble_eq_true rfl) ?_
       try dsimp only [AExit.then,AExit.block]
       repeat refine AWp.seq ?_
       refine AWp.reg1 {} hT (fun A hA=>by
         have f0:=ar_add hA i 1 i1 hi1 (by omega) (by omega)
         repeat (cbv;simp only [f0])
         cbv) (Nat.le_of_ble_eq_true rfl) ?_
       try dsimp only [AExit.then,AExit.block]
       repeat refine AWp.seq ?_
       refine AWp.reg1 {} hT (fun A hA=>by
         have f0:=ar_add hA j 1 j1 hj1 (by omega) (by omega)
         repeat (cbv;simp only [f0])
         cbv) (Nat.le_of_ble_eq_true rfl) ?_
       try dsimp only [AExit.then,AExit.block]
       refine ⟨(l.set i.toNat _,L',i1,j1),⟨hlm.symm,by simpa using g2,by dsimp only;omega,by dsimp only;omega,by dsimp only;omega,?_,?_⟩,by dsimp only;omega,by cbv⟩
       ·dsimp only
        have hil:i.toNat<l.length:=by omega
        rw [hx1,List.filter_cons,if_pos (by rw [<-hq,hb];decide),<-g6]
        rw [show i1.toNat=i.toNat+1 by omega,List.take_add_one,List.getElem?_set_self hil,List.take_set_of_le (Nat.le_refl _)]
        simp
       ·dsimp only
        rw [List.drop_set_of_lt (by omega),show j1.toNat=j.toNat+1 by omega,<-List.drop_drop,g7,List.drop_drop]
    ·repeat refine AWp.seq ?_
     refine AWp.reg1 {} hT (fun A hA=>by
       have f0:=ar_nlt hA hj
       repeat (cbv;simp only [f0])
       cbv) (Nat.le_of_ble_eq_true rfl) ?_
     try dsimp only [AExit.then,AExit.block]
     repeat refine AWp.seq ?_
     refine AWp.cond (b:=false) rfl (AWp.exit ?_)
     try dsimp only [AExit.then,AExit.block]
     rw [if_pos rfl]
     have hjn:j=n:=by omega
     subst hjn
     rw [List.take_of_length_le (by omega:x.length<=j.toNat)] at g6
     have him:i=m:=by
      have:=congrArg List.length g6
      rw [List.length_take] at this
      omega
     subst him
     obtain ⟨r,hr⟩ : ∃ r,j-i=r:=⟨_,rfl⟩
     have hfill : ∀ A:Ar,A=Ar.std->A.fill L i r (.agg [I 0,I 0,I 0])=Y:=fun A hA=>by
      subst hA
      show fillStd L i r _=Y
      unfold fillStd
      rw [<-hY,<-g1,List.take_append_of_le_length (by simp;omega),<-List.map_take,g6,List.drop_left' (by simp;omega),List.append_assoc]
      congr 3
      omega
     have hsum : ∀ A:Ar,A=Ar.std->A.zadd i r=j:=fun A hA=>by subst hA;show i+r=j;omega
     have hsub : ∀ A:Ar,A=Ar.std->A.zsub j i=r:=fun A hA=>by subst hA;exact hr
     have hsub0 : ∀ A:Ar,A=Ar.std->A.zsub i 0=i:=fun A hA=>by subst hA;show i-0=i;omega
     have hadd0 : ∀ A:Ar,A=Ar.std->A.zadd 0 i=i:=fun A hA=>by subst hA;show 0+i=i;omega
     have hadd00 : ∀ A:Ar,A=Ar.std->A.zadd 0 0=0:=fun A hA=>by subst hA;rfl
     repeat refine AWp.seq ?_
     refine AWp.reg1 {} hT (fun A hA=>by
       have f0:=ar_le hA (show (0:Int)<=i by omega)
       have f1:=ar_le hA (show i<=j by omega)
       have f2:=ar_le hA (Int.le_refl j)
       have f3:=hsub A hA
       have f4:=hadd0 A hA
       have f5:=hsum A hA
       have f6:=ar_len hA L NL hLl
       have f7:=ar_le hA hNL
       have f8:=hfill A hA
       repeat (cbv;simp only [f0,f1,f2,f3,f4,f5,f6,f7,f8])
       cbv) (Nat.le_of_ble_eq_true rfl) ?_
     try dsimp only [AExit.then,AExit.block]
     repeat refine AWp.seq ?_
     refine AWp.reg1 {} hT (fun A hA=>by
       have f0:=ar_le hA (show (0:Int)<=i by omega)
       have f1:=ar_le hA (show i<=j by omega)
       have f2:=ar_le hA (Int.le_refl (0:Int))
       have f3:=hsub0 A hA
       have f4:=hadd00 A hA
       repeat (cbv;simp only [f0,f1,f2,f3,f4])
       cbv) (Nat.le_of_ble_eq_true rfl) ?_
     try dsimp only [AExit.then,AExit.block]
     refine AWp.ret ⟨rfl,rfl,hinY,Nat.le_refl _,[],by simp⟩
end Go.Am

namespace Go.Am
open Go Go.Proofs
end Go.Am

namespace Go.Am
open Go Go.Proofs
theorem ar_deq {A:Ar} (hA:A=Ar.std) {l m:List D} {r:Bool} (h:l=m↔r=true):A.deq l m=r:=by
 subst hA
 cases r with
 | true=>simp only [Ar.std,h.2 rfl,decide_true]
 | false =>
   have : ¬ l=m:=fun e=>by simpa using h.1 e
   simp only [Ar.std,this,decide_false]
theorem dSta_inj : ∀ {a b:Sta},dSta a=dSta b->a=b:=by
 rintro ⟨a,b,c⟩ ⟨d,e,f⟩ h
 simp [dSta] at h
 simp [h]
end Go.Am
