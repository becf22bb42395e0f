/- Own text: ZL21. -/
import Derived.Test.YtkjeamngjnfpkaaGreatZB
import Derived.Test.YtkjeamngjnfpkaaGreatAmLaw
set_option maxRecDepth 100000
set_option linter.unusedVariables false
set_option linter.unusedSimpArgs false
namespace Go.Am
open Go
theorem Z82_eq (a b c:Int):Z82 Ar.std a b c=some (btw a b c):=by simp [Z82,btw]
theorem Z77_eq (a b c:Int):Z77 Ar.std a b c=some (btw a b c):=by simp [Z77,btw]
def isReg (n:Int):Bool:=btw 0 n 3
def isCel (n:Int):Bool:=btw 0 n 2
def okLine (l:Ln4) (many:Int):Bool :=
 if l.1=1 then isReg l.2.1&&(isCel l.2.2.1&&decide (l.2.2.2=0))
 else if l.1=2 then isCel l.2.1&&(isReg l.2.2.1&&decide (l.2.2.2=0))
 else if l.1=3 then isCel l.2.1&&(isReg l.2.2.1&&isReg l.2.2.2)
 else if l.1=4 then isReg l.2.1&&(btw 0 l.2.2.1 9&&decide (l.2.2.2=0))
 else if l.1=5 then isReg l.2.1&&(isReg l.2.2.1&&isReg l.2.2.2)
 else if l.1=6 then isReg l.2.1&&(btw 0 l.2.2.1 (many-1)&&decide (l.2.2.2=0))
 else if l.1=7 then isReg l.2.1&&(decide (l.2.2.1=0)&&decide (l.2.2.2=0))
 else false
def endsGive (l:List Ln4):Bool :=
 match l[l.length-1]? with
 | some x=>decide (x.1=7)
 | none=>false
def okCall (l:List Ln4):Bool:=btw 1 l.length 8&&(l.all (fun x=>okLine x l.length)&&endsGive l)
def vCode (c:Code):Bool:=btw 1 c.length 4&&c.all okCall
def okWord (n:Int) (w:List Int):Bool:=decide ((w.length:Int)<=3)&&w.all fun i=>btw 0 i (n-1)
def vUse (c:Code) (u:Tab):Bool:=btw 1 u.length 2&&u.all (okWord c.length)
theorem Z199_eq (n:Int):Z199 Ar.std n=some (!isReg n):=by simp [Z199,Z82_eq,isReg]
theorem Z187_eq (l:List Int) (hl:l.length<Lg):Z187 Ar.std (eInts l)=some (l.all isReg):=by
 have e:iter (Z189L0 Ar.std (eInts l)) 0=some ((l.findIdx? fun n => !isReg n).elim (.inl ()) (fun i => .inr (i:Int))):=by
  refine iter_find l _ _ _ (fun i n hn hi => ?_) ?_
  ·simp [Z189L0,Z199_eq,gt_enc hn,hi,wrap1 hi hl]
  ·simp [Z189L0]
 simp only [Z187,Z158,Z189,e,bsome,find_elim,std_zle,find_le,any_notB,Bool.not_not]
theorem Z188_eq (n:Int):Z188 Ar.std n=some (isCel n):=by simp [Z188,Z82_eq,isCel]
theorem Z187_1 (a:Int):Z187 Ar.std [.int .i64 a]=some (isReg a):=by
 have:=Z187_eq [a] (by simp [Lg]);simpa [enc,cI] using this
theorem Z187_2 (a b:Int):Z187 Ar.std [.int .i64 a,.int .i64 b]=some (isReg a&&isReg b):=by
 have:=Z187_eq [a,b] (by simp [Lg]);simpa [enc,cI] using this
theorem Z187_3 (a b c:Int):Z187 Ar.std [.int .i64 a,.int .i64 b,.int .i64 c]=some (isReg a&&(isReg b&&isReg c)):=by
 have:=Z187_eq [a,b,c] (by simp [Lg]);simpa [enc,cI] using this
theorem Z156_eq (l:Ln4) (m:Int) (h0:0<=m) (hm:m<Lg):Z156 Ar.std l.1 l.2.1 l.2.2.1 l.2.2.2 m=some (okLine l m):=by
 obtain ⟨d,a,b,c⟩:=l
 have hw:IntKind.i64.wrap (m-1)=m-1:=wrapS (by omega) hm
 simp only [Z156,Z187_1,Z187_2,Z187_3,Z188_eq,Z82_eq,bsome,std_zeq,std_wrp,std_zsub,hw,okLine]
 by_cases h1:d=1
 ·subst h1;simp <;> (cases isReg a <;> cases isCel b <;> simp)
 by_cases h2:d=2
 ·subst h2;simp <;> (cases isCel a <;> cases isReg b <;> simp)
 by_cases h3:d=3
 ·subst h3;simp <;> (cases isCel a <;> simp)
 by_cases h4:d=4
 ·subst h4;simp <;> (cases isReg a <;> cases btw 0 b 9 <;> simp)
 by_cases h5:d=5
 ·subst h5;simp
 by_cases h6:d=6
 ·subst h6;simp <;> (cases isReg a <;> cases btw 0 b (m-1) <;> simp)
 by_cases h7:d=7
 ·subst h7;simp <;> (cases isReg a <;> cases h:decide (b=0) <;> simp_all)
 ·simp [h1,h2,h3,h4,h5,h6,h7]
theorem Z155_eq (l:Ln4) (m:List Ln4) (hm:m.length<Lg):Z155 Ar.std l.1 l.2.1 l.2.2.1 l.2.2.2 (eLns m)=some (!okLine l m.length):=by
 simp only [Z155,len_enc,Z156_eq l m.length (by omega) (by omega),bsome]
theorem Z154_eq (l m:List Ln4) (hl:l.length<Lg) (hm:m.length<Lg):Z154 Ar.std (eLns l) (eLns m)=some (!l.all fun x=>okLine x m.length):=by
 have e:iter (Z186L0 Ar.std (eLns l) (eLns m)) 0=some ((l.findIdx? fun x => !okLine x m.length).elim (.inl ()) (fun i => .inr (i:Int))):=by
  refine iter_find l _ _ _ (fun i n hn hi => ?_) ?_
  ·obtain ⟨a,b,c,d⟩:=n
   have:=Z155_eq (a,b,c,d) m hm
   simp only at this
   simp [Z186L0,gt_enc hn,hi,wrap1 hi hl,this]
  ·simp [Z186L0]
 simp only [Z154,Z186,e,bsome,find_elim,std_zle,find_le,any_notB]
theorem Z114_eq (l:List Ln4) (hl:l.length<Lg):Z114 Ar.std (eLns l)=some (okCall l):=by
 simp only [Z114,Z82_eq,len_enc,bsome,Z154_eq l l hl hl]
 unfold okCall
 cases h:btw 1 l.length 8 with
 | false=>rfl
 | true =>
   have hb:=(btw_true _ _ _).1 h
   cases ha:l.all fun x=>okLine x l.length with
   | false=>rfl
   | true =>
     have hlt:l.length-1<l.length:=by omega
     have hg : ∃ a b c d,l[l.length-1]?=some (a,b,c,d):=⟨_,_,_,_,zp1 hlt⟩
     obtain ⟨a,b,c,d,hg⟩:=hg
     have hi:IntKind.i64.wrap ((l.length:Int)-1)=((l.length-1:Nat):Int):=by rw [wrapS (by omega) (by omega)];omega
     simp only [std_wrp,std_zsub,hi,gt_enc hg,bsome,cond_true,Bool.not_true,cond_false,endsGive,hg,std_zeq,Bool.true_and]
theorem Z80_eq (c:Code) (hc:CodeOk c):Z80 Ar.std (eCode c)=some (vCode c):=by
 have e:iter (Z153L0 Ar.std (eCode c)) 0=some ((c.findIdx? fun l => !okCall l).elim (.inl ()) (fun i => .inr (i:Int))):=by
  refine iter_find c _ _ _ (fun i n hn hi => ?_) ?_
  ·simp [Z153L0,Z113,Z114_eq n (hc.2 n (List.mem_of_getElem? hn)),gt_eCode hn,hi,wrap1 hi hc.1]
  ·simp [Z153L0]
 simp only [Z80,Z82_eq,Z112,Z153,e,bsome,find_elim,std_zle,find_le,len_eCode,any_notB,vCode]
 cases btw 1 c.length 4 <;> simp
end Go.Am

namespace Go.Am
open Go
theorem wrapL {n:Nat} (h:n<Lg):IntKind.i64.wrap ((n:Int)-1)=(n:Int)-1:=by
 have h':n<9223372036854775808:=h
 exact wrapS (by omega) (by omega)
theorem Z165_eq (n:Int) (c:Code) (hc:CodeOk c):Z165 Ar.std n (eCode c)=some (!btw 0 n (c.length-1)):=by
 simp only [Z165,Z82_eq,len_eCode,std_wrp,std_zsub,wrapL hc.1,bsome]
theorem Z124_eq (c:Code) (hc:CodeOk c) (w:List Int) (hw:w.length<Lg):Z124 Ar.std (eCode c) (eInts w)=some (okWord c.length w):=by
 have e:iter (Z189aL0 Ar.std (eInts w) (eCode c)) 0=some ((w.findIdx? fun n => !btw 0 n (c.length-1)).elim (.inl ()) (fun i => .inr (i:Int))):=by
  refine iter_find w _ _ _ (fun i n hn hi => ?_) ?_
  ·simp [Z189aL0,Z165_eq n c hc,gt_enc hn,hi,wrap1 hi hw]
  ·simp [Z189aL0]
 simp only [Z124,Z158a,Z189a,e,bsome,find_elim,std_zle,find_le,any_notB,Bool.not_not,len_enc,okWord,cond_some]
 cases decide ((w.length:Int)<=3) <;> rfl
theorem Z86_eq (c:Code) (hc:CodeOk c) (u:Tab) (hu:TabOk u):Z86 Ar.std (eCode c) (eTab u)=some (vUse c u):=by
 have e:iter (Z164L0 Ar.std (eTab u) (eCode c)) 0=some ((u.findIdx? fun w => !okWord c.length w).elim (.inl ()) (fun i => .inr (i:Int))):=by
  refine iter_find u _ _ _ (fun i n hn hi => ?_) ?_
  ·simp [Z164L0,Z123,Z124_eq c hc n (hu.2 n (List.mem_of_getElem? hn)),gt_eTab hn,hi,wrap1 hi hu.1]
  ·simp [Z164L0]
 simp only [Z86,Z122,Z164,e,bsome,find_elim,std_zle,find_le,Z82_eq,len_eTab,any_notB,Bool.not_not,cond_some,vUse]
 cases btw 1 u.length 2 <;> rfl
theorem Z109_eq (n:Int):Z109 Ar.std n=some (isReg n):=by simp [Z109,Z77_eq,isReg]
theorem Z110_eq (n:Int):Z110 Ar.std n=some (isCel n):=by simp [Z110,Z77_eq,isCel]
theorem Z111_eq (n:Int):Z111 Ar.std n=some (btw 0 n 9):=by simp [Z111,Z77_eq]
theorem Z78_eq (l:Ln4) (m:Int) (h0:0<=m) (hm:m<Lg):Z78 Ar.std l.1 l.2.1 l.2.2.1 l.2.2.2 m=some (okLine l m):=by
 obtain ⟨d,a,b,c⟩:=l
 have hw:IntKind.i64.wrap (m-1)=m-1:=wrapS (by omega) hm
 simp only [Z78,Z109_eq,Z110_eq,Z111_eq,Z77_eq,bsome,std_zeq,std_wrp,std_zsub,hw,okLine]
 by_cases h1:d=1
 ·subst h1;simp <;> (cases isReg a <;> cases isCel b <;> simp)
 by_cases h2:d=2
 ·subst h2;simp <;> (cases isCel a <;> cases isReg b <;> simp)
 by_cases h3:d=3
 ·subst h3;simp <;> (cases isCel a <;> cases isReg b <;> simp)
 by_cases h4:d=4
 ·subst h4;simp <;> (cases isReg a <;> cases btw 0 b 9 <;> simp)
 by_cases h5:d=5
 ·subst h5;simp <;> (cases isReg a <;> cases isReg b <;> simp)
 by_cases h6:d=6
 ·subst h6;simp <;> (cases isReg a <;> cases btw 0 b (m-1) <;> simp)
 by_cases h7:d=7
 ·subst h7;simp <;> (cases isReg a <;> cases h:decide (b=0) <;> simp_all)
 ·simp [h1,h2,h3,h4,h5,h6,h7]
theorem Z30L0_eq (l:List Ln4) (hl:l.length<Lg):iter (Z30L0 Ar.std (eLns l)) 0=some (bif (l.any fun x => !okLine x l.length) then .inr () else .inl ()):=by
 refine iter_any l _ _ _ (fun i n hn hi => ?_) ?_
 ·have:=Z78_eq n l.length (by omega) (by omega)
  obtain ⟨a,b,c,d⟩:=n
  simp only at this
  simp [Z30L0,gt_enc hn,hi,wrap1 hi hl,this]
 ·simp [Z30L0]
theorem Z30_eq (c:Code) (hc:CodeOk c):Z30 Ar.std (eCode c)=some (vCode c):=by
 have e:iter (Z30L1 Ar.std (eCode c)) 0=some (bif (c.any fun l => !okCall l) then .inr () else .inl ()):=by
  refine iter_any c _ _ _ (fun i l hn hi => ?_) ?_
  ·have hl:=hc.2 l (List.mem_of_getElem? hn)
   simp only [Z30L1,std_zlt,len_eCode,ltC hi,cond_true,gt_eCode hn,bsome,Z77_eq,len_enc,Z30L0_eq l hl,std_wrp,std_zadd,wrap1 hi hc.1,okCall]
   cases h:btw 1 l.length 8 with
   | false=>rfl
   | true =>
     have hb:=(btw_true _ _ _).1 h
     rw [any_notB]
     cases ha:l.all fun x=>okLine x l.length with
     | false=>rfl
     | true =>
       have hlt:l.length-1<l.length:=by omega
       have hg : ∃ a b c d,l[l.length-1]?=some (a,b,c,d):=⟨_,_,_,_,zp1 hlt⟩
       obtain ⟨a,b,cc,d,hg⟩:=hg
       have hi':IntKind.i64.wrap ((l.length:Int)-1)=((l.length-1:Nat):Int):=by rw [wrapL hl];omega
       simp only [std_zsub,hi',gt_enc hg,bsome,cond_true,Bool.not_true,cond_false,Sum.elim_inl,endsGive,hg,std_zeq,Bool.true_and]
       cases decide (a=7) <;> rfl
  ·simp [Z30L1]
 simp only [Z30,Z77_eq,e,bsome,len_eCode,any_notB,vCode]
 cases btw 1 c.length 4 <;> cases c.all okCall <;> rfl
theorem Z32_eq (c:Code) (hc:CodeOk c) (u:Tab) (hu:TabOk u):Z32 Ar.std (eCode c) (eTab u)=some (vUse c u):=by
 have e0 : ∀ w:List Int,w.length<Lg->iter (Z32L0 Ar.std (eCode c) (eInts w)) 0=some (bif (w.any fun i => !btw 0 i (c.length-1)) then .inr () else .inl ()):=by
  intro w hw
  refine iter_any w _ _ _ (fun i n hn hi => ?_) ?_
  ·simp only [Z32L0,std_zlt,len_enc,ltC hi,cond_true,gt_enc hn,bsome,Z77_eq,len_eCode,std_wrp,std_zsub,std_zadd,wrapL hc.1,wrap1 hi hw]
   cases btw 0 n (c.length-1) <;> rfl
  ·simp [Z32L0]
 have e:iter (Z32L1 Ar.std (eCode c) (eTab u)) 0=some (bif (u.any fun w => !okWord c.length w) then .inr () else .inl ()):=by
  refine iter_any u _ _ _ (fun i w hn hi => ?_) ?_
  ·have hw:=hu.2 w (List.mem_of_getElem? hn)
   simp only [Z32L1,std_zlt,len_eTab,ltC hi,cond_true,gt_eTab hn,bsome,len_enc,e0 w hw,std_wrp,std_zadd,wrap1 hi hu.1,okWord,any_notB]
   by_cases h3:(w.length:Int)<=3
   ·have h4 : ¬ (3:Int)<w.length:=by omega
    simp only [h3,h4,decide_true,decide_false,cond_false,Bool.true_and]
    cases w.all fun i=>btw 0 i (c.length-1) <;> rfl
   ·have h4:(3:Int)<w.length:=by omega
    simp only [h3,h4,decide_true,decide_false,cond_true,Bool.false_and];rfl
  ·simp [Z32L1]
 simp only [Z32,Z77_eq,e,bsome,len_eTab,any_notB,vUse]
 cases btw 1 u.length 2 <;> cases u.all (okWord c.length) <;> rfl
def codeE (c:Code) (u:Tab):Int:=bif vCode c then bif vUse c u then 0 else 81 else 80
theorem Z40_eq (c:Code) (hc:CodeOk c) (u:Tab) (hu:TabOk u):Z40 Ar.std (eCode c) (eTab u)=some (codeE c u):=by
 simp only [Z40,Z80_eq c hc,Z86_eq c hc u hu,bsome,codeE]
 cases vCode c <;> cases vUse c u <;> rfl
theorem Z67_eq (c:Code) (hc:CodeOk c) (u:Tab) (hu:TabOk u):Z67 Ar.std (eCode c) (eTab u)=some (codeE c u):=by
 simp only [Z67,Z30_eq c hc,Z32_eq c hc u hu,bsome,codeE]
 cases vCode c <;> cases vUse c u <;> rfl
end Go.Am

set_option maxHeartbeats 1000000
namespace Go.Am
open Go
theorem bt {α β:Type} {o:Option α} {f:α->Option β} {v:α} {r:Option β} (h:o=some v) (h2:f v=r):o.bind f=r:=by rw [h];exact h2
theorem cnT {α:Type} {b:Bool} {x y r:α} (h:b=true) (h2:x=r):(bif b then x else y)=r:=by rw [h];exact h2
theorem cnF {α:Type} {b:Bool} {x y r:α} (h:b=false) (h2:y=r):(bif b then x else y)=r:=by rw [h];exact h2
def rg4 (a b c d i:Int):Int:=if i=0 then a else if i=1 then b else if i=2 then c else d
def rg3 (a b c i:Int):Int:=if i=0 then a else if i=1 then b else c
def pk (z i v r:Int):Int:=bif decide (z=i) then v else r
theorem isReg_iff {i:Int}:isReg i=true↔i=0\/i=1\/i=2\/i=3:=by simp [isReg];omega
theorem isCel_iff {i:Int}:isCel i=true↔i=0\/i=1\/i=2:=by simp [isCel];omega
theorem gc4 {a b c d i:Int} (h:isReg i=true):gc Ar.std (cI .i64) [.int .i64 a,.int .i64 b,.int .i64 c,.int .i64 d] (Ar.std.nat i)=some (rg4 a b c d i):=by
 rcases isReg_iff.1 h with rfl | rfl | rfl | rfl <;> simp [gc,rg4]
theorem gc3 {a b c i:Int} (h:isCel i=true):gc Ar.std (cI .i64) [.int .i64 a,.int .i64 b,.int .i64 c] (Ar.std.nat i)=some (rg3 a b c i):=by
 rcases isCel_iff.1 h with rfl | rfl | rfl <;> simp [gc,rg3]
theorem ckr0 {i:Int} (h:isReg i=true):ck (Ar.std.zle 0 i)=some ():=ck_of (by rcases isReg_iff.1 h with rfl | rfl | rfl | rfl <;> rfl)
theorem ckr1 {i:Int} (h:isReg i=true):ck (Ar.std.zlt i (Int.ofNat 4))=some ():=ck_of (by rcases isReg_iff.1 h with rfl | rfl | rfl | rfl <;> rfl)
theorem ckc0 {i:Int} (h:isCel i=true):ck (Ar.std.zle 0 i)=some ():=ck_of (by rcases isCel_iff.1 h with rfl | rfl | rfl <;> rfl)
theorem ckc1 {i:Int} (h:isCel i=true):ck (Ar.std.zlt i (Int.ofNat 3))=some ():=ck_of (by rcases isCel_iff.1 h with rfl | rfl | rfl <;> rfl)
abbrev Xs:=Int×Int×Int×Int×Int×Int×Int×Int×Int×List Call
def xLn (l:Ln4) (st cl ln r0 r1 r2 r3 at_ c0 c1 c2:Int) (h:List Call):Xs :=
 let A:=l.2.1;let B:=l.2.2.1;let C:=l.2.2.2
 if l.1=1 then let v:=rg3 c0 c1 c2 B;(cl,ln+1,pk A 0 v r0,pk A 1 v r1,pk A 2 v r2,pk A 3 v r3,c0,c1,c2,h)
 else if l.1=2 then let v:=rg4 r0 r1 r2 r3 B;(cl,ln+1,r0,r1,r2,r3,pk A 0 v c0,pk A 1 v c1,pk A 2 v c2,h)
 else if l.1=3 then
  if rg3 c0 c1 c2 A=rg4 r0 r1 r2 r3 B then let v:=rg4 r0 r1 r2 r3 C;(cl,ln+1,r0,r1,r2,1,pk A 0 v c0,pk A 1 v c1,pk A 2 v c2,h)
  else (cl,ln+1,r0,r1,r2,0,c0,c1,c2,h)
 else if l.1=4 then (cl,ln+1,pk A 0 B r0,pk A 1 B r1,pk A 2 B r2,pk A 3 B r3,c0,c1,c2,h)
 else if l.1=5 then let v:=(rg4 r0 r1 r2 r3 B+rg4 r0 r1 r2 r3 C).tmod 10;(cl,ln+1,pk A 0 v r0,pk A 1 v r1,pk A 2 v r2,pk A 3 v r3,c0,c1,c2,h)
 else if l.1=6 then (cl,(if rg4 r0 r1 r2 r3 A=0 then B else ln+1),r0,r1,r2,r3,c0,c1,c2,h)
 else
  (cl+1,0,r0,r1,r2,r3,c0,c1,c2,match h[at_.toNat]? with
   | some x=>h.set at_.toNat (x.1,x.2.1,x.2.2.1,rg4 r0 r1 r2 r3 A,x.2.2.2.2.1,2*st)
   | none=>h)
def dg (n:Int):Prop:=0<=n/\n<=9
theorem rg4_dg {a b c d i:Int} (ha:dg a) (hb:dg b) (hc:dg c) (hd:dg d):dg (rg4 a b c d i):=by
 unfold rg4;split;exact ha;split;exact hb;split;exact hc;exact hd
theorem rg3_dg {a b c i:Int} (ha:dg a) (hb:dg b) (hc:dg c):dg (rg3 a b c i):=by
 unfold rg3;split;exact ha;split;exact hb;exact hc
theorem w64 {n:Int} (h0 : -1000000000<=n) (h1:n<=1000000000):IntKind.i64.wrap n=n:=i64w _ (by omega) (by omega)
theorem okLine_do {l:Ln4} {m:Int} (h:okLine l m=true) :
  (l.1=1/\isReg l.2.1=true/\isCel l.2.2.1=true)\/(l.1=2/\isCel l.2.1=true/\isReg l.2.2.1=true)\/(l.1=3/\isCel l.2.1=true/\isReg l.2.2.1=true/\isReg l.2.2.2=true) \/
  (l.1=4/\isReg l.2.1=true/\dg l.2.2.1)\/(l.1=5/\isReg l.2.1=true/\isReg l.2.2.1=true/\isReg l.2.2.2=true)\/(l.1=6/\isReg l.2.1=true/\0<=l.2.2.1/\l.2.2.1<m)\/(l.1=7/\isReg l.2.1=true):=by
 unfold okLine at h
 split at h
 ·rename_i h1;simp only [zp4] at h;exact .inl ⟨h1,h.1,h.2.1⟩
 split at h
 ·rename_i h1;simp only [zp4] at h;exact .inr (.inl ⟨h1,h.1,h.2.1⟩)
 split at h
 ·rename_i h1;simp only [zp4] at h;exact .inr (.inr (.inl ⟨h1,h.1,h.2.1,h.2.2⟩))
 split at h
 ·rename_i h1;simp only [zp4,btw_true] at h;exact .inr (.inr (.inr (.inl ⟨h1,h.1,h.2.1⟩)))
 split at h
 ·rename_i h1;simp only [zp4] at h;exact .inr (.inr (.inr (.inr (.inl ⟨h1,h.1,h.2.1,h.2.2⟩))))
 split at h
 ·rename_i h1;simp only [zp4,btw_true] at h;exact .inr (.inr (.inr (.inr (.inr (.inl ⟨h1,h.1,h.2.1.1,by omega⟩)))))
 split at h
 ·rename_i h1;simp only [zp4] at h;exact .inr (.inr (.inr (.inr (.inr (.inr ⟨h1,h.1⟩)))))
 ·cases h
theorem Z120_eq (d a b c:Int) (x5 x6:List D) (x7 x8 r0 r1 r2 r3 x13 x14 x15 x16 x17 x18 x19 x20 c0 c1 c2 x24:Int) (x25 x26:List D) (ha:isCel a=true) (hb:isReg b=true) (hc:isReg c=true) :
  Z120 Ar.std d a b c x5 x6 x7 x8 r0 r1 r2 r3 x13 x14 x15 x16 x17 x18 x19 x20 c0 c1 c2 x24 x25 x26 =
   some (if rg3 c0 c1 c2 a=rg4 r0 r1 r2 r3 b then (1,pk a 0 (rg4 r0 r1 r2 r3 c) c0,pk a 1 (rg4 r0 r1 r2 r3 c) c1,pk a 2 (rg4 r0 r1 r2 r3 c) c2) else (0,c0,c1,c2)):=by
 unfold Z120
 refine bt (ckc0 ha) (bt (ckc1 ha) (bt (gc3 ha) (bt (ckr0 hb) (bt (ckr1 hb) (bt (gc4 hb) ?_)))))
 by_cases h:rg3 c0 c1 c2 a=rg4 r0 r1 r2 r3 b
 ·rw [if_pos h]
  exact cnT (decide_eq_true h) (bt (ckr0 hc) (bt (ckr1 hc) (bt (gc4 hc) (bt (ckc0 ha) (bt (ckc1 ha) rfl)))))
 ·rw [if_neg h]
  exact cnF (decide_eq_false h) rfl
theorem Z120a_eq (d a b c:Int) (x5 x6:List D) (x7 x8 x9 x10 x11 x12 x13 x14 x15 r0 r1 r2 r3 x20 c0 c1 c2 x24:Int) (x25 x26:List D) (ha:isCel a=true) (hb:isReg b=true) (hc:isReg c=true) :
  Z120a Ar.std d a b c x5 x6 x7 x8 x9 x10 x11 x12 x13 x14 x15 r0 r1 r2 r3 x20 c0 c1 c2 x24 x25 x26 =
   some (if rg3 c0 c1 c2 a=rg4 r0 r1 r2 r3 b then (1,pk a 0 (rg4 r0 r1 r2 r3 c) c0,pk a 1 (rg4 r0 r1 r2 r3 c) c1,pk a 2 (rg4 r0 r1 r2 r3 c) c2) else (0,c0,c1,c2)):=by
 unfold Z120a
 refine bt (ckc0 ha) (bt (ckc1 ha) (bt (gc3 ha) (bt (ckr0 hb) (bt (ckr1 hb) (bt (gc4 hb) ?_)))))
 by_cases h:rg3 c0 c1 c2 a=rg4 r0 r1 r2 r3 b
 ·rw [if_pos h]
  exact cnT (decide_eq_true h) (bt (ckr0 hc) (bt (ckr1 hc) (bt (gc4 hc) (bt (ckc0 ha) (bt (ckc1 ha) rfl)))))
 ·rw [if_neg h]
  exact cnF (decide_eq_false h) rfl
def open_ (t:Int) (h:List Call):Bool:=h.any fun c=>decide (c.1=t)&&decide (c.2.2.2.2.2=0)
theorem Z118_eq (t:Int) (x2 x3:List D) (x4 x5 x6 x7 x8 x9 x10 x11 x12 x13 x14 x15 x16 x17 x18 x19 x20 x21:Int) (h:List Call) (hl:h.length<Lg) (x23:List D) :
  Z118 Ar.std t x2 x3 x4 x5 x6 x7 x8 x9 x10 x11 x12 x13 x14 x15 x16 x17 x18 x19 x20 x21 (eCalls h) x23=some (open_ t h):=by
 have e:iter (Z190L0 Ar.std t (eCalls h)) 0=some ((h.findIdx? fun c=>decide (c.1=t)&&decide (c.2.2.2.2.2=0)).elim (.inl ()) (fun i => .inr (i:Int))):=by
  refine iter_find h _ _ _ (fun i n hn hi => ?_) ?_
  ·obtain ⟨a,b,c,d,e,f⟩:=n
   have h1:gc Ar.std cCall (eCalls h) (Ar.std.nat (i:Int))=some (a,b,c,d,e,f):=gc_enc (by simpa using hn)
   have h0:ck (Ar.std.zle 0 (i:Int))=some ():=ck_of (by simp)
   have h2:ck (Ar.std.zlt (i:Int) (Ar.std.len (eCalls h)))=some ():=ck_of (by simp;omega)
   unfold Z190L0
   refine cnT (by simp;omega) (bt h0 (bt h2 (bt h1 ?_)))
   have h3:Z161 Ar.std a b c d e f t=some (decide (a=t)&&decide (f=0)):=by
    simp only [Z161,std_zeq];cases decide (a=t) <;> simp
   refine bt h3 ?_
   simp only [std_wrp,std_zadd,wrap1 hi hl]
   cases decide (a=t)&&decide (f=0) <;> rfl
  ·simp [Z190L0]
 simp only [Z118,Z160,Z190,e,bsome,find_elim,std_zle,find_le,open_]
end Go.Am

set_option maxHeartbeats 2000000
namespace Go.Am
open Go
def beg (inn:Bool) (t op st r0 r1 r2 r3 at_:Int) (h:List Call) (mk:List Int):Int×Int×Int×Int×Int×List Call×List Int :=
 bif inn then (r0,r1,r2,r3,at_,h,mk) else (0,1,0,0,h.length,h++[(t,0,op,0,2*st+1,0)],mk++[0])
def hasMk (mks:List Int) (op ln:Int):Bool:=decide (0<mks.length)&&decide (mks[op.toNat]?=some ln)
def mkd (mks:List Int) (op ln at_ st:Int) (mk:List Int):List Int:=bif hasMk mks op ln then mk.set at_.toNat st else mk
theorem beg_open {inn:Bool} {ln:Int} (hln:inn=false->ln=0):(bif decide (ln=0) then (some inn).bind (fun r=>some (!r)) else some false:Option Bool)=some (!inn):=by
 cases inn with
 | false=>rw [hln rfl];rfl
 | true=>cases decide (ln=0) <;> rfl
theorem beg_eq (inn:Bool) (t op st r0 r1 r2 r3 at_:Int) (h:List Call) (mk:List Int) (hh:h.length<1000) (hm:mk.length<1000) (hst:0<=st/\st<=1000) :
  (bif !inn then
   (Z119 Ar.std).bind fun () =>
   (ap Ar.std (eCalls h) [.agg [.int .i64 t,.int .i64 0,.int .i64 op,.int .i64 0,.int .i64 (Ar.std.wrp .i64 (Ar.std.zadd (Ar.std.wrp .i64 (Ar.std.zmul 2 st)) 1)),.int .i64 0]]).bind fun l =>
   (ap Ar.std (eInts mk) [.int .i64 0]).bind fun l' =>
   some (0,1,0,0,Ar.std.len (eCalls h),l,l')
   else some (r0,r1,r2,r3,at_,eCalls h,eInts mk):Option (Int×Int×Int×Int×Int×List D×List D)) =
  some ((beg inn t op st r0 r1 r2 r3 at_ h mk).1,(beg inn t op st r0 r1 r2 r3 at_ h mk).2.1,(beg inn t op st r0 r1 r2 r3 at_ h mk).2.2.1,(beg inn t op st r0 r1 r2 r3 at_ h mk).2.2.2.1,(beg inn t op st r0 r1 r2 r3 at_ h mk).2.2.2.2.1,
   eCalls (beg inn t op st r0 r1 r2 r3 at_ h mk).2.2.2.2.2.1,eInts (beg inn t op st r0 r1 r2 r3 at_ h mk).2.2.2.2.2.2):=by
 cases inn with
 | true=>rfl
 | false =>
   have h1:Ar.std.wrp .i64 (Ar.std.zadd (Ar.std.wrp .i64 (Ar.std.zmul 2 st)) 1)=2*st+1:=by
    simp only [std_wrp,std_zadd,std_zmul];rw [w64 (n:=2*st) (by omega) (by omega),w64 (by omega) (by omega)]
   rw [h1]
   refine cnT rfl (bt (v:=()) rfl (bt (ap_enc1 (c:=cCall) (a:=(t,0,op,0,2*st+1,0)) rfl (by omega)) (bt (ap_enc1 (c:=cI .i64) (a:=0) rfl (by omega)) ?_)))
   simp only [len_enc];rfl
theorem mkd_eq (mks:List Int) (op ln at_ st:Int) (mk:List Int) (ha:0<=at_) (ha2:at_<mk.length) (hst:0<=st/\st<=1000) :
  (bif hasMk mks op ln then
   (ck (Ar.std.zle 0 at_)).bind fun _ =>
   (ck (Ar.std.zlt at_ (Ar.std.len (eInts mk)))).bind fun _ =>
   (gc Ar.std (cI .i64) (eInts mk) (Ar.std.nat at_)).bind fun _ =>
   some (Ar.std.lset (eInts mk) (Ar.std.nat at_) (.int .i64 (Ar.std.wrp .i64 (Ar.std.zadd st 1))))
   else some (eInts mk):Option (List D))=some (eInts (mkd mks op ln at_ (st+1) mk)):=by
 unfold mkd
 cases hasMk mks op ln with
 | false=>rfl
 | true =>
   have h1:Ar.std.wrp .i64 (Ar.std.zadd st 1)=st+1:=by simp only [std_wrp,std_zadd];exact w64 (by omega) (by omega)
   have hg:mk[at_.toNat]?=some mk[at_.toNat]:=zp1 (by omega)
   rw [h1]
   refine cnT rfl (bt (ck_of (by simpa using ha)) (bt (ck_of (by simpa using ha2)) (bt (gc_enc (c:=cI .i64) (i:=at_.toNat) hg) ?_)))
   exact congrArg some (enc_set (c:=cI .i64) mk at_.toNat (st+1))
theorem hasMk_eq (mks:List Int) (op ln:Int) (hop:0<=op) (hm:mks=[]\/op.toNat<mks.length) :
  (bif Ar.std.zlt 0 (Ar.std.len (eInts mks)) then (gt Ar.std (cI .i64) (eInts mks) op).bind (fun a=>some (Ar.std.zeq a ln)) else some false:Option Bool)=some (hasMk mks op ln):=by
 rcases hm with rfl | hm
 ·rfl
 ·have hg:mks[op.toNat]?=some mks[op.toNat]:=zp1 hm
  have h0:0<mks.length:=by omega
  refine cnT (by simp;omega) (bt (gt_encI hop hg) ?_)
  simp [hasMk,h0,hg]
theorem Z84_0 (c:Code) (u:Tab) (mks:List Int) (cl ln r0 r1 r2 r3 at_ y1 y2 y3 y4 y5 y6 y7 c0 c1 c2 st:Int) (h:List Call) (mk:List Int) (inn:Bool) (op:Int) (w:List Int) (ls:List Ln4) (l:Ln4)
  (hu:u[0]?=some w) (hcl:0<=cl/\cl<=1000) (hw:w[cl.toNat]?=some op) (hop:0<=op) (hc:c[op.toNat]?=some ls) (hln:0<=ln/\ln<=1000) (hl:ls[ln.toNat]?=some l) {m:Int} (hok:okLine l m=true)
  (hopen:open_ 0 h=inn) (hln0:inn=false->ln=0) (hh:h.length<1000) (hm:mk.length=h.length) (hat:inn=true->0<=at_/\at_<h.length) (hst:0<=st/\st<=1000) (hmk:mks=[]\/op.toNat<mks.length)
  (d0:dg r0) (d1:dg r1) (d2:dg r2) (d3:dg r3) :
  Z84 Ar.std 0 (eInts mks) (eCode c) (eTab u) cl ln r0 r1 r2 r3 at_ y1 y2 y3 y4 y5 y6 y7 c0 c1 c2 st (eCalls h) (eInts mk)=some (eCode c,eTab u,(xLn l (st+1) cl ln (beg inn 0 op st r0 r1 r2 r3 at_ h mk).1 (beg inn 0 op st r0 r1 r2 r3 at_ h mk).2.1 (beg inn 0 op st r0 r1 r2 r3 at_ h mk).2.2.1 (beg inn 0 op st r0 r1 r2 r3 at_ h mk).2.2.2.1 (beg inn 0 op st r0 r1 r2 r3 at_ h mk).2.2.2.2.1 c0 c1 c2 (beg inn 0 op st r0 r1 r2 r3 at_ h mk).2.2.2.2.2.1).1,(xLn l (st+1) cl ln (beg inn 0 op st r0 r1 r2 r3 at_ h mk).1 (beg inn 0 op st r0 r1 r2 r3 at_ h mk).2.1 (beg inn 0 op st r0 r1 r2 r3 at_ h mk).2.2.1 (beg inn 0 op st r0 r1 r2 r3 at_ h mk).2.2.2.1 (beg inn 0 op st r0 r1 r2 r3 at_ h mk).2.2.2.2.1 c0 c1 c2 (beg inn 0 op st r0 r1 r2 r3 at_ h mk).2.2.2.2.2.1).2.1,(xLn l (st+1) cl ln (beg inn 0 op st r0 r1 r2 r3 at_ h mk).1 (beg inn 0 op st r0 r1 r2 r3 at_ h mk).2.1 (beg inn 0 op st r0 r1 r2 r3 at_ h mk).2.2.1 (beg inn 0 op st r0 r1 r2 r3 at_ h mk).2.2.2.1 (beg inn 0 op st r0 r1 r2 r3 at_ h mk).2.2.2.2.1 c0 c1 c2 (beg inn 0 op st r0 r1 r2 r3 at_ h mk).2.2.2.2.2.1).2.2.1,(xLn l (st+1) cl ln (beg inn 0 op st r0 r1 r2 r3 at_ h mk).1 (beg inn 0 op st r0 r1 r2 r3 at_ h mk).2.1 (beg inn 0 op st r0 r1 r2 r3 at_ h mk).2.2.1 (beg inn 0 op st r0 r1 r2 r3 at_ h mk).2.2.2.1 (beg inn 0 op st r0 r1 r2 r3 at_ h mk).2.2.2.2.1 c0 c1 c2 (beg inn 0 op st r0 r1 r2 r3 at_ h mk).2.2.2.2.2.1).2.2.2.1,(xLn l (st+1) cl ln (beg inn 0 op st r0 r1 r2 r3 at_ h mk).1 (beg inn 0 op st r0 r1 r2 r3 at_ h mk).2.1 (beg inn 0 op st r0 r1 r2 r3 at_ h mk).2.2.1 (beg inn 0 op st r0 r1 r2 r3 at_ h mk).2.2.2.1 (beg inn 0 op st r0 r1 r2 r3 at_ h mk).2.2.2.2.1 c0 c1 c2 (beg inn 0 op st r0 r1 r2 r3 at_ h mk).2.2.2.2.2.1).2.2.2.2.1,(xLn l (st+1) cl ln (beg inn 0 op st r0 r1 r2 r3 at_ h mk).1 (beg inn 0 op st r0 r1 r2 r3 at_ h mk).2.1 (beg inn 0 op st r0 r1 r2 r3 at_ h mk).2.2.1 (beg inn 0 op st r0 r1 r2 r3 at_ h mk).2.2.2.1 (beg inn 0 op st r0 r1 r2 r3 at_ h mk).2.2.2.2.1 c0 c1 c2 (beg inn 0 op st r0 r1 r2 r3 at_ h mk).2.2.2.2.2.1).2.2.2.2.2.1,(beg inn 0 op st r0 r1 r2 r3 at_ h mk).2.2.2.2.1,y1,y2,y3,y4,y5,y6,y7,(xLn l (st+1) cl ln (beg inn 0 op st r0 r1 r2 r3 at_ h mk).1 (beg inn 0 op st r0 r1 r2 r3 at_ h mk).2.1 (beg inn 0 op st r0 r1 r2 r3 at_ h mk).2.2.1 (beg inn 0 op st r0 r1 r2 r3 at_ h mk).2.2.2.1 (beg inn 0 op st r0 r1 r2 r3 at_ h mk).2.2.2.2.1 c0 c1 c2 (beg inn 0 op st r0 r1 r2 r3 at_ h mk).2.2.2.2.2.1).2.2.2.2.2.2.1,(xLn l (st+1) cl ln (beg inn 0 op st r0 r1 r2 r3 at_ h mk).1 (beg inn 0 op st r0 r1 r2 r3 at_ h mk).2.1 (beg inn 0 op st r0 r1 r2 r3 at_ h mk).2.2.1 (beg inn 0 op st r0 r1 r2 r3 at_ h mk).2.2.2.1 (beg inn 0 op st r0 r1 r2 r3 at_ h mk).2.2.2.2.1 c0 c1 c2 (beg inn 0 op st r0 r1 r2 r3 at_ h mk).2.2.2.2.2.1).2.2.2.2.2.2.2.1,(xLn l (st+1) cl ln (beg inn 0 op st r0 r1 r2 r3 at_ h mk).1 (beg inn 0 op st r0 r1 r2 r3 at_ h mk).2.1 (beg inn 0 op st r0 r1 r2 r3 at_ h mk).2.2.1 (beg inn 0 op st r0 r1 r2 r3 at_ h mk).2.2.2.1 (beg inn 0 op st r0 r1 r2 r3 at_ h mk).2.2.2.2.1 c0 c1 c2 (beg inn 0 op st r0 r1 r2 r3 at_ h mk).2.2.2.2.2.1).2.2.2.2.2.2.2.2.1,st+1,eCalls (xLn l (st+1) cl ln (beg inn 0 op st r0 r1 r2 r3 at_ h mk).1 (beg inn 0 op st r0 r1 r2 r3 at_ h mk).2.1 (beg inn 0 op st r0 r1 r2 r3 at_ h mk).2.2.1 (beg inn 0 op st r0 r1 r2 r3 at_ h mk).2.2.2.1 (beg inn 0 op st r0 r1 r2 r3 at_ h mk).2.2.2.2.1 c0 c1 c2 (beg inn 0 op st r0 r1 r2 r3 at_ h mk).2.2.2.2.2.1).2.2.2.2.2.2.2.2.2,eInts (mkd mks op ln (beg inn 0 op st r0 r1 r2 r3 at_ h mk).2.2.2.2.1 (st+1) (beg inn 0 op st r0 r1 r2 r3 at_ h mk).2.2.2.2.2.2)):=by
 have hLg:h.length<Lg:=by show h.length<9223372036854775808;omega
 have hwl:Ar.std.wrp .i64 (Ar.std.zadd ln 1)=ln+1:=by simp only [std_wrp,std_zadd];exact w64 (by omega) (by omega)
 have hwc:Ar.std.wrp .i64 (Ar.std.zadd cl 1)=cl+1:=by simp only [std_wrp,std_zadd];exact w64 (by omega) (by omega)
 have hws:Ar.std.wrp .i64 (Ar.std.zadd st 1)=st+1:=by simp only [std_wrp,std_zadd];exact w64 (by omega) (by omega)
 have hw2:Ar.std.wrp .i64 (Ar.std.zmul 2 (st+1))=2*(st+1):=by simp only [std_wrp,std_zmul];exact w64 (by omega) (by omega)
 have hB:0<=(beg inn 0 op st r0 r1 r2 r3 at_ h mk).2.2.2.2.1/\(beg inn 0 op st r0 r1 r2 r3 at_ h mk).2.2.2.2.1<(beg inn 0 op st r0 r1 r2 r3 at_ h mk).2.2.2.2.2.1.length/\(beg inn 0 op st r0 r1 r2 r3 at_ h mk).2.2.2.2.2.2.length=(beg inn 0 op st r0 r1 r2 r3 at_ h mk).2.2.2.2.2.1.length/\dg (beg inn 0 op st r0 r1 r2 r3 at_ h mk).1/\dg (beg inn 0 op st r0 r1 r2 r3 at_ h mk).2.1/\dg (beg inn 0 op st r0 r1 r2 r3 at_ h mk).2.2.1/\dg (beg inn 0 op st r0 r1 r2 r3 at_ h mk).2.2.2.1:=by
  cases inn with
  | true=>exact ⟨(hat rfl).1,(hat rfl).2,hm,d0,d1,d2,d3⟩
  | false=>refine ⟨?_,?_,?_,?_,?_,?_,?_⟩ <;> simp [beg,dg,hm] <;> omega
 unfold Z84
 refine cnT rfl ?_
 refine bt (gt_eTabI (by decide) (by simpa using hu)) ?_
 refine bt (gt_encI hcl.1 hw) ?_
 refine bt (v := !inn) (by rw [Z118_eq _ _ _ _ _ _ _ _ _ _ _ _ _ _ _ _ _ _ _ _ _ _ hLg _,hopen,std_zeq];exact beg_open hln0) ?_
 refine bt (beg_eq inn 0 op st r0 r1 r2 r3 at_ h mk hh (by omega) hst) ?_
 refine bt (hasMk_eq mks op ln hop hmk) ?_
 obtain ⟨hB1,hB2,hB3,hB4,hB5,hB6,hB7⟩:=hB
 refine bt (mkd_eq mks op ln (beg inn 0 op st r0 r1 r2 r3 at_ h mk).2.2.2.2.1 st (beg inn 0 op st r0 r1 r2 r3 at_ h mk).2.2.2.2.2.2 hB1 (by rw [hB3];exact hB2) hst) ?_
 refine bt (gt_eCodeI hop hc) ?_
 obtain ⟨d,a,b,e⟩:=l
 refine bt (gt_encI hln.1 hl) ?_
 dsimp only
 rw [hwl,hws,hwc,hw2]
 generalize (beg inn 0 op st r0 r1 r2 r3 at_ h mk)=BB at hB1 hB2 hB3 hB4 hB5 hB6 hB7 ⊢
 obtain ⟨R0,R1,R2,R3,AT,H,MK⟩:=BB
 dsimp only at hB1 hB2 hB3 hB4 hB5 hB6 hB7 ⊢
 refine bt (v:=((xLn (d,a,b,e) (st+1) cl ln R0 R1 R2 R3 AT c0 c1 c2 H).1,(xLn (d,a,b,e) (st+1) cl ln R0 R1 R2 R3 AT c0 c1 c2 H).2.1,(xLn (d,a,b,e) (st+1) cl ln R0 R1 R2 R3 AT c0 c1 c2 H).2.2.1,(xLn (d,a,b,e) (st+1) cl ln R0 R1 R2 R3 AT c0 c1 c2 H).2.2.2.1,(xLn (d,a,b,e) (st+1) cl ln R0 R1 R2 R3 AT c0 c1 c2 H).2.2.2.2.1,(xLn (d,a,b,e) (st+1) cl ln R0 R1 R2 R3 AT c0 c1 c2 H).2.2.2.2.2.1,(xLn (d,a,b,e) (st+1) cl ln R0 R1 R2 R3 AT c0 c1 c2 H).2.2.2.2.2.2.1,(xLn (d,a,b,e) (st+1) cl ln R0 R1 R2 R3 AT c0 c1 c2 H).2.2.2.2.2.2.2.1,(xLn (d,a,b,e) (st+1) cl ln R0 R1 R2 R3 AT c0 c1 c2 H).2.2.2.2.2.2.2.2.1,eCalls (xLn (d,a,b,e) (st+1) cl ln R0 R1 R2 R3 AT c0 c1 c2 H).2.2.2.2.2.2.2.2.2)) ?_ rfl
 rcases okLine_do hok with ⟨h1,hA,hBb⟩ | ⟨h1,hA,hBb⟩ | ⟨h1,hA,hBb,hCc⟩ | ⟨h1,hA,hBb⟩ | ⟨h1,hA,hBb,hCc⟩ | ⟨h1,hA,hBb,_⟩ | ⟨h1,hA⟩
 all_goals (simp only at h1;subst h1;try dsimp only at hA;try dsimp only at hBb;try dsimp only at hCc)
 ·exact cnT rfl (bt (ckc0 hBb) (bt (ckc1 hBb) (bt (gc3 hBb) (bt (ckr0 hA) (bt (ckr1 hA) rfl)))))
 ·exact cnF rfl (bt (v:=((xLn (2,a,b,e) (st+1) cl ln R0 R1 R2 R3 AT c0 c1 c2 H).1,(xLn (2,a,b,e) (st+1) cl ln R0 R1 R2 R3 AT c0 c1 c2 H).2.1,(xLn (2,a,b,e) (st+1) cl ln R0 R1 R2 R3 AT c0 c1 c2 H).2.2.1,(xLn (2,a,b,e) (st+1) cl ln R0 R1 R2 R3 AT c0 c1 c2 H).2.2.2.1,(xLn (2,a,b,e) (st+1) cl ln R0 R1 R2 R3 AT c0 c1 c2 H).2.2.2.2.1,(xLn (2,a,b,e) (st+1) cl ln R0 R1 R2 R3 AT c0 c1 c2 H).2.2.2.2.2.1,(xLn (2,a,b,e) (st+1) cl ln R0 R1 R2 R3 AT c0 c1 c2 H).2.2.2.2.2.2.1,(xLn (2,a,b,e) (st+1) cl ln R0 R1 R2 R3 AT c0 c1 c2 H).2.2.2.2.2.2.2.1,(xLn (2,a,b,e) (st+1) cl ln R0 R1 R2 R3 AT c0 c1 c2 H).2.2.2.2.2.2.2.2.1,eCalls (xLn (2,a,b,e) (st+1) cl ln R0 R1 R2 R3 AT c0 c1 c2 H).2.2.2.2.2.2.2.2.2)) (cnT rfl (bt (ckr0 hBb) (bt (ckr1 hBb) (bt (gc4 hBb) (bt (ckc0 hA) (bt (ckc1 hA) rfl)))))) rfl)
 ·refine cnF rfl (bt (v:=((xLn (3,a,b,e) (st+1) cl ln R0 R1 R2 R3 AT c0 c1 c2 H).1,(xLn (3,a,b,e) (st+1) cl ln R0 R1 R2 R3 AT c0 c1 c2 H).2.1,(xLn (3,a,b,e) (st+1) cl ln R0 R1 R2 R3 AT c0 c1 c2 H).2.2.1,(xLn (3,a,b,e) (st+1) cl ln R0 R1 R2 R3 AT c0 c1 c2 H).2.2.2.1,(xLn (3,a,b,e) (st+1) cl ln R0 R1 R2 R3 AT c0 c1 c2 H).2.2.2.2.1,(xLn (3,a,b,e) (st+1) cl ln R0 R1 R2 R3 AT c0 c1 c2 H).2.2.2.2.2.1,(xLn (3,a,b,e) (st+1) cl ln R0 R1 R2 R3 AT c0 c1 c2 H).2.2.2.2.2.2.1,(xLn (3,a,b,e) (st+1) cl ln R0 R1 R2 R3 AT c0 c1 c2 H).2.2.2.2.2.2.2.1,(xLn (3,a,b,e) (st+1) cl ln R0 R1 R2 R3 AT c0 c1 c2 H).2.2.2.2.2.2.2.2.1,eCalls (xLn (3,a,b,e) (st+1) cl ln R0 R1 R2 R3 AT c0 c1 c2 H).2.2.2.2.2.2.2.2.2)) (cnF rfl (bt (v:=((xLn (3,a,b,e) (st+1) cl ln R0 R1 R2 R3 AT c0 c1 c2 H).1,(xLn (3,a,b,e) (st+1) cl ln R0 R1 R2 R3 AT c0 c1 c2 H).2.1,(xLn (3,a,b,e) (st+1) cl ln R0 R1 R2 R3 AT c0 c1 c2 H).2.2.1,(xLn (3,a,b,e) (st+1) cl ln R0 R1 R2 R3 AT c0 c1 c2 H).2.2.2.1,(xLn (3,a,b,e) (st+1) cl ln R0 R1 R2 R3 AT c0 c1 c2 H).2.2.2.2.1,(xLn (3,a,b,e) (st+1) cl ln R0 R1 R2 R3 AT c0 c1 c2 H).2.2.2.2.2.1,(xLn (3,a,b,e) (st+1) cl ln R0 R1 R2 R3 AT c0 c1 c2 H).2.2.2.2.2.2.1,(xLn (3,a,b,e) (st+1) cl ln R0 R1 R2 R3 AT c0 c1 c2 H).2.2.2.2.2.2.2.1,(xLn (3,a,b,e) (st+1) cl ln R0 R1 R2 R3 AT c0 c1 c2 H).2.2.2.2.2.2.2.2.1,eCalls (xLn (3,a,b,e) (st+1) cl ln R0 R1 R2 R3 AT c0 c1 c2 H).2.2.2.2.2.2.2.2.2)) (cnT rfl (bt (Z120_eq _ _ _ _ _ _ _ _ _ _ _ _ _ _ _ _ _ _ _ _ _ _ _ _ _ _ hA hBb hCc) ?_)) rfl)) rfl)
  simp only [xLn]
  by_cases hq:rg3 c0 c1 c2 a=rg4 R0 R1 R2 R3 b
  ·simp only [if_pos hq];rfl
  ·simp only [if_neg hq];rfl
 ·exact cnF rfl (bt (v:=((xLn (4,a,b,e) (st+1) cl ln R0 R1 R2 R3 AT c0 c1 c2 H).1,(xLn (4,a,b,e) (st+1) cl ln R0 R1 R2 R3 AT c0 c1 c2 H).2.1,(xLn (4,a,b,e) (st+1) cl ln R0 R1 R2 R3 AT c0 c1 c2 H).2.2.1,(xLn (4,a,b,e) (st+1) cl ln R0 R1 R2 R3 AT c0 c1 c2 H).2.2.2.1,(xLn (4,a,b,e) (st+1) cl ln R0 R1 R2 R3 AT c0 c1 c2 H).2.2.2.2.1,(xLn (4,a,b,e) (st+1) cl ln R0 R1 R2 R3 AT c0 c1 c2 H).2.2.2.2.2.1,(xLn (4,a,b,e) (st+1) cl ln R0 R1 R2 R3 AT c0 c1 c2 H).2.2.2.2.2.2.1,(xLn (4,a,b,e) (st+1) cl ln R0 R1 R2 R3 AT c0 c1 c2 H).2.2.2.2.2.2.2.1,(xLn (4,a,b,e) (st+1) cl ln R0 R1 R2 R3 AT c0 c1 c2 H).2.2.2.2.2.2.2.2.1,eCalls (xLn (4,a,b,e) (st+1) cl ln R0 R1 R2 R3 AT c0 c1 c2 H).2.2.2.2.2.2.2.2.2)) (cnF rfl (bt (v:=((xLn (4,a,b,e) (st+1) cl ln R0 R1 R2 R3 AT c0 c1 c2 H).1,(xLn (4,a,b,e) (st+1) cl ln R0 R1 R2 R3 AT c0 c1 c2 H).2.1,(xLn (4,a,b,e) (st+1) cl ln R0 R1 R2 R3 AT c0 c1 c2 H).2.2.1,(xLn (4,a,b,e) (st+1) cl ln R0 R1 R2 R3 AT c0 c1 c2 H).2.2.2.1,(xLn (4,a,b,e) (st+1) cl ln R0 R1 R2 R3 AT c0 c1 c2 H).2.2.2.2.1,(xLn (4,a,b,e) (st+1) cl ln R0 R1 R2 R3 AT c0 c1 c2 H).2.2.2.2.2.1,(xLn (4,a,b,e) (st+1) cl ln R0 R1 R2 R3 AT c0 c1 c2 H).2.2.2.2.2.2.1,(xLn (4,a,b,e) (st+1) cl ln R0 R1 R2 R3 AT c0 c1 c2 H).2.2.2.2.2.2.2.1,(xLn (4,a,b,e) (st+1) cl ln R0 R1 R2 R3 AT c0 c1 c2 H).2.2.2.2.2.2.2.2.1,eCalls (xLn (4,a,b,e) (st+1) cl ln R0 R1 R2 R3 AT c0 c1 c2 H).2.2.2.2.2.2.2.2.2)) (cnF rfl (bt (v:=(cl,ln+1,pk a 0 b R0,pk a 1 b R1,pk a 2 b R2,pk a 3 b R3,eCalls H)) (cnT rfl (bt (ckr0 hA) (bt (ckr1 hA) rfl))) rfl)) rfl)) rfl)
 ·have hs:Ar.std.rem (Ar.std.wrp .i64 (Ar.std.zadd (rg4 R0 R1 R2 R3 b) (rg4 R0 R1 R2 R3 e))) 10=((rg4 R0 R1 R2 R3 b+rg4 R0 R1 R2 R3 e).tmod 10):=by
   have q1:=rg4_dg (i:=b) hB4 hB5 hB6 hB7;have q2:=rg4_dg (i:=e) hB4 hB5 hB6 hB7
   simp only [std_rem,std_wrp,std_zadd];rw [w64 (by have:=q1.1;have:=q2.1;omega) (by have:=q1.2;have:=q2.2;omega)]
  refine cnF rfl (bt (v:=((xLn (5,a,b,e) (st+1) cl ln R0 R1 R2 R3 AT c0 c1 c2 H).1,(xLn (5,a,b,e) (st+1) cl ln R0 R1 R2 R3 AT c0 c1 c2 H).2.1,(xLn (5,a,b,e) (st+1) cl ln R0 R1 R2 R3 AT c0 c1 c2 H).2.2.1,(xLn (5,a,b,e) (st+1) cl ln R0 R1 R2 R3 AT c0 c1 c2 H).2.2.2.1,(xLn (5,a,b,e) (st+1) cl ln R0 R1 R2 R3 AT c0 c1 c2 H).2.2.2.2.1,(xLn (5,a,b,e) (st+1) cl ln R0 R1 R2 R3 AT c0 c1 c2 H).2.2.2.2.2.1,(xLn (5,a,b,e) (st+1) cl ln R0 R1 R2 R3 AT c0 c1 c2 H).2.2.2.2.2.2.1,(xLn (5,a,b,e) (st+1) cl ln R0 R1 R2 R3 AT c0 c1 c2 H).2.2.2.2.2.2.2.1,(xLn (5,a,b,e) (st+1) cl ln R0 R1 R2 R3 AT c0 c1 c2 H).2.2.2.2.2.2.2.2.1,eCalls (xLn (5,a,b,e) (st+1) cl ln R0 R1 R2 R3 AT c0 c1 c2 H).2.2.2.2.2.2.2.2.2)) (cnF rfl (bt (v:=((xLn (5,a,b,e) (st+1) cl ln R0 R1 R2 R3 AT c0 c1 c2 H).1,(xLn (5,a,b,e) (st+1) cl ln R0 R1 R2 R3 AT c0 c1 c2 H).2.1,(xLn (5,a,b,e) (st+1) cl ln R0 R1 R2 R3 AT c0 c1 c2 H).2.2.1,(xLn (5,a,b,e) (st+1) cl ln R0 R1 R2 R3 AT c0 c1 c2 H).2.2.2.1,(xLn (5,a,b,e) (st+1) cl ln R0 R1 R2 R3 AT c0 c1 c2 H).2.2.2.2.1,(xLn (5,a,b,e) (st+1) cl ln R0 R1 R2 R3 AT c0 c1 c2 H).2.2.2.2.2.1,(xLn (5,a,b,e) (st+1) cl ln R0 R1 R2 R3 AT c0 c1 c2 H).2.2.2.2.2.2.1,(xLn (5,a,b,e) (st+1) cl ln R0 R1 R2 R3 AT c0 c1 c2 H).2.2.2.2.2.2.2.1,(xLn (5,a,b,e) (st+1) cl ln R0 R1 R2 R3 AT c0 c1 c2 H).2.2.2.2.2.2.2.2.1,eCalls (xLn (5,a,b,e) (st+1) cl ln R0 R1 R2 R3 AT c0 c1 c2 H).2.2.2.2.2.2.2.2.2)) (cnF rfl (bt (v:=(cl,ln+1,pk a 0 ((rg4 R0 R1 R2 R3 b+rg4 R0 R1 R2 R3 e).tmod 10) R0,pk a 1 ((rg4 R0 R1 R2 R3 b+rg4 R0 R1 R2 R3 e).tmod 10) R1,pk a 2 ((rg4 R0 R1 R2 R3 b+rg4 R0 R1 R2 R3 e).tmod 10) R2,pk a 3 ((rg4 R0 R1 R2 R3 b+rg4 R0 R1 R2 R3 e).tmod 10) R3,eCalls H)) (cnF rfl (bt (v:=(cl,ln+1,pk a 0 ((rg4 R0 R1 R2 R3 b+rg4 R0 R1 R2 R3 e).tmod 10) R0,pk a 1 ((rg4 R0 R1 R2 R3 b+rg4 R0 R1 R2 R3 e).tmod 10) R1,pk a 2 ((rg4 R0 R1 R2 R3 b+rg4 R0 R1 R2 R3 e).tmod 10) R2,pk a 3 ((rg4 R0 R1 R2 R3 b+rg4 R0 R1 R2 R3 e).tmod 10) R3,eCalls H)) (cnT rfl (bt (ckr0 hBb) (bt (ckr1 hBb) (bt (gc4 hBb) (bt (ckr0 hCc) (bt (ckr1 hCc) (bt (gc4 hCc) (bt (v:=()) rfl (bt (ckr0 hA) (bt (ckr1 hA) ?_)))))))))) rfl)) rfl)) rfl)) rfl)
  simp only [hs];rfl
 ·refine cnF rfl (bt (v:=((xLn (6,a,b,e) (st+1) cl ln R0 R1 R2 R3 AT c0 c1 c2 H).1,(xLn (6,a,b,e) (st+1) cl ln R0 R1 R2 R3 AT c0 c1 c2 H).2.1,(xLn (6,a,b,e) (st+1) cl ln R0 R1 R2 R3 AT c0 c1 c2 H).2.2.1,(xLn (6,a,b,e) (st+1) cl ln R0 R1 R2 R3 AT c0 c1 c2 H).2.2.2.1,(xLn (6,a,b,e) (st+1) cl ln R0 R1 R2 R3 AT c0 c1 c2 H).2.2.2.2.1,(xLn (6,a,b,e) (st+1) cl ln R0 R1 R2 R3 AT c0 c1 c2 H).2.2.2.2.2.1,(xLn (6,a,b,e) (st+1) cl ln R0 R1 R2 R3 AT c0 c1 c2 H).2.2.2.2.2.2.1,(xLn (6,a,b,e) (st+1) cl ln R0 R1 R2 R3 AT c0 c1 c2 H).2.2.2.2.2.2.2.1,(xLn (6,a,b,e) (st+1) cl ln R0 R1 R2 R3 AT c0 c1 c2 H).2.2.2.2.2.2.2.2.1,eCalls (xLn (6,a,b,e) (st+1) cl ln R0 R1 R2 R3 AT c0 c1 c2 H).2.2.2.2.2.2.2.2.2)) (cnF rfl (bt (v:=((xLn (6,a,b,e) (st+1) cl ln R0 R1 R2 R3 AT c0 c1 c2 H).1,(xLn (6,a,b,e) (st+1) cl ln R0 R1 R2 R3 AT c0 c1 c2 H).2.1,(xLn (6,a,b,e) (st+1) cl ln R0 R1 R2 R3 AT c0 c1 c2 H).2.2.1,(xLn (6,a,b,e) (st+1) cl ln R0 R1 R2 R3 AT c0 c1 c2 H).2.2.2.1,(xLn (6,a,b,e) (st+1) cl ln R0 R1 R2 R3 AT c0 c1 c2 H).2.2.2.2.1,(xLn (6,a,b,e) (st+1) cl ln R0 R1 R2 R3 AT c0 c1 c2 H).2.2.2.2.2.1,(xLn (6,a,b,e) (st+1) cl ln R0 R1 R2 R3 AT c0 c1 c2 H).2.2.2.2.2.2.1,(xLn (6,a,b,e) (st+1) cl ln R0 R1 R2 R3 AT c0 c1 c2 H).2.2.2.2.2.2.2.1,(xLn (6,a,b,e) (st+1) cl ln R0 R1 R2 R3 AT c0 c1 c2 H).2.2.2.2.2.2.2.2.1,eCalls (xLn (6,a,b,e) (st+1) cl ln R0 R1 R2 R3 AT c0 c1 c2 H).2.2.2.2.2.2.2.2.2)) (cnF rfl (bt (v:=(cl,(if rg4 R0 R1 R2 R3 a=0 then b else ln+1),R0,R1,R2,R3,eCalls H)) (cnF rfl (bt (v:=(cl,(if rg4 R0 R1 R2 R3 a=0 then b else ln+1),R0,R1,R2,R3,eCalls H)) (cnF rfl (bt (v:=(cl,(if rg4 R0 R1 R2 R3 a=0 then b else ln+1),eCalls H)) (cnT rfl (bt (ckr0 hA) (bt (ckr1 hA) (bt (gc4 hA) (bt (v:=if rg4 R0 R1 R2 R3 a=0 then b else ln+1) ?_ rfl))))) rfl)) rfl)) rfl)) rfl)) rfl)
  by_cases hq:rg4 R0 R1 R2 R3 a=0
  ·rw [if_pos hq,std_zeq];exact cnT (decide_eq_true hq) rfl
  ·rw [if_neg hq,std_zeq];exact cnF (decide_eq_false hq) rfl
 ·obtain ⟨x,hx⟩ : ∃ x,H[AT.toNat]?=some x:=⟨_,zp1 (by omega)⟩
  obtain ⟨x1,x2,x3,x4,x5,x6⟩:=x
  have hlt:AT.toNat<H.length:=(zp2.1 hx).1
  have g1:gc Ar.std cCall (eCalls H) (Ar.std.nat AT)=some (x1,x2,x3,x4,x5,x6):=gc_enc (by simpa using hx)
  have e1:Ar.std.lset (eCalls H) (Ar.std.nat AT) (.agg [.int .i64 x1,.int .i64 x2,.int .i64 x3,.int .i64 x4,.int .i64 x5,.int .i64 (2*(st+1))])=eCalls (H.set AT.toNat (x1,x2,x3,x4,x5,2*(st+1))):=enc_set (c:=cCall) H AT.toNat (x1,x2,x3,x4,x5,2*(st+1))
  have g2:gc Ar.std cCall (eCalls (H.set AT.toNat (x1,x2,x3,x4,x5,2*(st+1)))) (Ar.std.nat AT)=some (x1,x2,x3,x4,x5,2*(st+1)):=gc_enc (by simp [hlt])
  have e2:Ar.std.lset (eCalls (H.set AT.toNat (x1,x2,x3,x4,x5,2*(st+1)))) (Ar.std.nat AT) (.agg [.int .i64 x1,.int .i64 x2,.int .i64 x3,.int .i64 (rg4 R0 R1 R2 R3 a),.int .i64 x5,.int .i64 (2*(st+1))])=eCalls (H.set AT.toNat (x1,x2,x3,rg4 R0 R1 R2 R3 a,x5,2*(st+1))):=by
   refine (enc_set (c:=cCall) _ AT.toNat (x1,x2,x3,rg4 R0 R1 R2 R3 a,x5,2*(st+1))).trans ?_
   rw [List.set_set]
  have hxx:xLn (7,a,b,e) (st+1) cl ln R0 R1 R2 R3 AT c0 c1 c2 H=(cl+1,0,R0,R1,R2,R3,c0,c1,c2,H.set AT.toNat (x1,x2,x3,rg4 R0 R1 R2 R3 a,x5,2*(st+1))):=by
   simp only [xLn,hx];rfl
  rw [hxx]
  refine cnF rfl (bt (v:=(cl+1,0,R0,R1,R2,R3,c0,c1,c2,eCalls (H.set AT.toNat (x1,x2,x3,rg4 R0 R1 R2 R3 a,x5,2*(st+1))))) (cnF rfl (bt (v:=(cl+1,0,R0,R1,R2,R3,c0,c1,c2,eCalls (H.set AT.toNat (x1,x2,x3,rg4 R0 R1 R2 R3 a,x5,2*(st+1))))) (cnF rfl (bt (v:=(cl+1,0,R0,R1,R2,R3,eCalls (H.set AT.toNat (x1,x2,x3,rg4 R0 R1 R2 R3 a,x5,2*(st+1))))) (cnF rfl (bt (v:=(cl+1,0,R0,R1,R2,R3,eCalls (H.set AT.toNat (x1,x2,x3,rg4 R0 R1 R2 R3 a,x5,2*(st+1))))) (cnF rfl (bt (v:=(cl+1,0,eCalls (H.set AT.toNat (x1,x2,x3,rg4 R0 R1 R2 R3 a,x5,2*(st+1))))) (cnF rfl (bt (v:=(cl+1,0,eCalls (H.set AT.toNat (x1,x2,x3,rg4 R0 R1 R2 R3 a,x5,2*(st+1))))) (cnT rfl (bt (ck_of (by simpa using hB1)) (bt (ck_of (by simpa using hB2)) (bt (ckr0 hA) (bt (ckr1 hA) (bt (gc4 hA) (bt g1 ?_))))))) rfl)) rfl)) rfl)) rfl)) rfl)) rfl)
  dsimp only
  rw [e1]
  refine bt g2 ?_
  dsimp only
  rw [e2]
theorem Z84_1 (c:Code) (u:Tab) (mks:List Int) (cl ln r0 r1 r2 r3 at_ y1 y2 y3 y4 y5 y6 y7 c0 c1 c2 st:Int) (h:List Call) (mk:List Int) (inn:Bool) (op:Int) (w:List Int) (ls:List Ln4) (l:Ln4)
  (hu:u[1]?=some w) (hcl:0<=cl/\cl<=1000) (hw:w[cl.toNat]?=some op) (hop:0<=op) (hc:c[op.toNat]?=some ls) (hln:0<=ln/\ln<=1000) (hl:ls[ln.toNat]?=some l) {m:Int} (hok:okLine l m=true)
  (hopen:open_ 1 h=inn) (hln0:inn=false->ln=0) (hh:h.length<1000) (hm:mk.length=h.length) (hat:inn=true->0<=at_/\at_<h.length) (hst:0<=st/\st<=1000) (hmk:mks=[]\/op.toNat<mks.length)
  (d0:dg r0) (d1:dg r1) (d2:dg r2) (d3:dg r3) :
  Z84 Ar.std 1 (eInts mks) (eCode c) (eTab u) y1 y2 y3 y4 y5 y6 y7 cl ln r0 r1 r2 r3 at_ c0 c1 c2 st (eCalls h) (eInts mk)=some (eCode c,eTab u,y1,y2,y3,y4,y5,y6,y7,(xLn l (st+1) cl ln (beg inn 1 op st r0 r1 r2 r3 at_ h mk).1 (beg inn 1 op st r0 r1 r2 r3 at_ h mk).2.1 (beg inn 1 op st r0 r1 r2 r3 at_ h mk).2.2.1 (beg inn 1 op st r0 r1 r2 r3 at_ h mk).2.2.2.1 (beg inn 1 op st r0 r1 r2 r3 at_ h mk).2.2.2.2.1 c0 c1 c2 (beg inn 1 op st r0 r1 r2 r3 at_ h mk).2.2.2.2.2.1).1,(xLn l (st+1) cl ln (beg inn 1 op st r0 r1 r2 r3 at_ h mk).1 (beg inn 1 op st r0 r1 r2 r3 at_ h mk).2.1 (beg inn 1 op st r0 r1 r2 r3 at_ h mk).2.2.1 (beg inn 1 op st r0 r1 r2 r3 at_ h mk).2.2.2.1 (beg inn 1 op st r0 r1 r2 r3 at_ h mk).2.2.2.2.1 c0 c1 c2 (beg inn 1 op st r0 r1 r2 r3 at_ h mk).2.2.2.2.2.1).2.1,(xLn l (st+1) cl ln (beg inn 1 op st r0 r1 r2 r3 at_ h mk).1 (beg inn 1 op st r0 r1 r2 r3 at_ h mk).2.1 (beg inn 1 op st r0 r1 r2 r3 at_ h mk).2.2.1 (beg inn 1 op st r0 r1 r2 r3 at_ h mk).2.2.2.1 (beg inn 1 op st r0 r1 r2 r3 at_ h mk).2.2.2.2.1 c0 c1 c2 (beg inn 1 op st r0 r1 r2 r3 at_ h mk).2.2.2.2.2.1).2.2.1,(xLn l (st+1) cl ln (beg inn 1 op st r0 r1 r2 r3 at_ h mk).1 (beg inn 1 op st r0 r1 r2 r3 at_ h mk).2.1 (beg inn 1 op st r0 r1 r2 r3 at_ h mk).2.2.1 (beg inn 1 op st r0 r1 r2 r3 at_ h mk).2.2.2.1 (beg inn 1 op st r0 r1 r2 r3 at_ h mk).2.2.2.2.1 c0 c1 c2 (beg inn 1 op st r0 r1 r2 r3 at_ h mk).2.2.2.2.2.1).2.2.2.1,(xLn l (st+1) cl ln (beg inn 1 op st r0 r1 r2 r3 at_ h mk).1 (beg inn 1 op st r0 r1 r2 r3 at_ h mk).2.1 (beg inn 1 op st r0 r1 r2 r3 at_ h mk).2.2.1 (beg inn 1 op st r0 r1 r2 r3 at_ h mk).2.2.2.1 (beg inn 1 op st r0 r1 r2 r3 at_ h mk).2.2.2.2.1 c0 c1 c2 (beg inn 1 op st r0 r1 r2 r3 at_ h mk).2.2.2.2.2.1).2.2.2.2.1,(xLn l (st+1) cl ln (beg inn 1 op st r0 r1 r2 r3 at_ h mk).1 (beg inn 1 op st r0 r1 r2 r3 at_ h mk).2.1 (beg inn 1 op st r0 r1 r2 r3 at_ h mk).2.2.1 (beg inn 1 op st r0 r1 r2 r3 at_ h mk).2.2.2.1 (beg inn 1 op st r0 r1 r2 r3 at_ h mk).2.2.2.2.1 c0 c1 c2 (beg inn 1 op st r0 r1 r2 r3 at_ h mk).2.2.2.2.2.1).2.2.2.2.2.1,(beg inn 1 op st r0 r1 r2 r3 at_ h mk).2.2.2.2.1,(xLn l (st+1) cl ln (beg inn 1 op st r0 r1 r2 r3 at_ h mk).1 (beg inn 1 op st r0 r1 r2 r3 at_ h mk).2.1 (beg inn 1 op st r0 r1 r2 r3 at_ h mk).2.2.1 (beg inn 1 op st r0 r1 r2 r3 at_ h mk).2.2.2.1 (beg inn 1 op st r0 r1 r2 r3 at_ h mk).2.2.2.2.1 c0 c1 c2 (beg inn 1 op st r0 r1 r2 r3 at_ h mk).2.2.2.2.2.1).2.2.2.2.2.2.1,(xLn l (st+1) cl ln (beg inn 1 op st r0 r1 r2 r3 at_ h mk).1 (beg inn 1 op st r0 r1 r2 r3 at_ h mk).2.1 (beg inn 1 op st r0 r1 r2 r3 at_ h mk).2.2.1 (beg inn 1 op st r0 r1 r2 r3 at_ h mk).2.2.2.1 (beg inn 1 op st r0 r1 r2 r3 at_ h mk).2.2.2.2.1 c0 c1 c2 (beg inn 1 op st r0 r1 r2 r3 at_ h mk).2.2.2.2.2.1).2.2.2.2.2.2.2.1,(xLn l (st+1) cl ln (beg inn 1 op st r0 r1 r2 r3 at_ h mk).1 (beg inn 1 op st r0 r1 r2 r3 at_ h mk).2.1 (beg inn 1 op st r0 r1 r2 r3 at_ h mk).2.2.1 (beg inn 1 op st r0 r1 r2 r3 at_ h mk).2.2.2.1 (beg inn 1 op st r0 r1 r2 r3 at_ h mk).2.2.2.2.1 c0 c1 c2 (beg inn 1 op st r0 r1 r2 r3 at_ h mk).2.2.2.2.2.1).2.2.2.2.2.2.2.2.1,st+1,eCalls (xLn l (st+1) cl ln (beg inn 1 op st r0 r1 r2 r3 at_ h mk).1 (beg inn 1 op st r0 r1 r2 r3 at_ h mk).2.1 (beg inn 1 op st r0 r1 r2 r3 at_ h mk).2.2.1 (beg inn 1 op st r0 r1 r2 r3 at_ h mk).2.2.2.1 (beg inn 1 op st r0 r1 r2 r3 at_ h mk).2.2.2.2.1 c0 c1 c2 (beg inn 1 op st r0 r1 r2 r3 at_ h mk).2.2.2.2.2.1).2.2.2.2.2.2.2.2.2,eInts (mkd mks op ln (beg inn 1 op st r0 r1 r2 r3 at_ h mk).2.2.2.2.1 (st+1) (beg inn 1 op st r0 r1 r2 r3 at_ h mk).2.2.2.2.2.2)):=by
 have hLg:h.length<Lg:=by show h.length<9223372036854775808;omega
 have hwl:Ar.std.wrp .i64 (Ar.std.zadd ln 1)=ln+1:=by simp only [std_wrp,std_zadd];exact w64 (by omega) (by omega)
 have hwc:Ar.std.wrp .i64 (Ar.std.zadd cl 1)=cl+1:=by simp only [std_wrp,std_zadd];exact w64 (by omega) (by omega)
 have hws:Ar.std.wrp .i64 (Ar.std.zadd st 1)=st+1:=by simp only [std_wrp,std_zadd];exact w64 (by omega) (by omega)
 have hw2:Ar.std.wrp .i64 (Ar.std.zmul 2 (st+1))=2*(st+1):=by simp only [std_wrp,std_zmul];exact w64 (by omega) (by omega)
 have hB:0<=(beg inn 1 op st r0 r1 r2 r3 at_ h mk).2.2.2.2.1/\(beg inn 1 op st r0 r1 r2 r3 at_ h mk).2.2.2.2.1<(beg inn 1 op st r0 r1 r2 r3 at_ h mk).2.2.2.2.2.1.length/\(beg inn 1 op st r0 r1 r2 r3 at_ h mk).2.2.2.2.2.2.length=(beg inn 1 op st r0 r1 r2 r3 at_ h mk).2.2.2.2.2.1.length/\dg (beg inn 1 op st r0 r1 r2 r3 at_ h mk).1/\dg (beg inn 1 op st r0 r1 r2 r3 at_ h mk).2.1/\dg (beg inn 1 op st r0 r1 r2 r3 at_ h mk).2.2.1/\dg (beg inn 1 op st r0 r1 r2 r3 at_ h mk).2.2.2.1:=by
  cases inn with
  | true=>exact ⟨(hat rfl).1,(hat rfl).2,hm,d0,d1,d2,d3⟩
  | false=>refine ⟨?_,?_,?_,?_,?_,?_,?_⟩ <;> simp [beg,dg,hm] <;> omega
 unfold Z84
 refine cnF rfl (cnT rfl ?_)
 refine bt (gt_eTabI (by decide) (by simpa using hu)) ?_
 refine bt (gt_encI hcl.1 hw) ?_
 refine bt (v := !inn) (by rw [Z118_eq _ _ _ _ _ _ _ _ _ _ _ _ _ _ _ _ _ _ _ _ _ _ hLg _,hopen,std_zeq];exact beg_open hln0) ?_
 refine bt (beg_eq inn 1 op st r0 r1 r2 r3 at_ h mk hh (by omega) hst) ?_
 refine bt (hasMk_eq mks op ln hop hmk) ?_
 obtain ⟨hB1,hB2,hB3,hB4,hB5,hB6,hB7⟩:=hB
 refine bt (mkd_eq mks op ln (beg inn 1 op st r0 r1 r2 r3 at_ h mk).2.2.2.2.1 st (beg inn 1 op st r0 r1 r2 r3 at_ h mk).2.2.2.2.2.2 hB1 (by rw [hB3];exact hB2) hst) ?_
 refine bt (gt_eCodeI hop hc) ?_
 obtain ⟨d,a,b,e⟩:=l
 refine bt (gt_encI hln.1 hl) ?_
 dsimp only
 rw [hwl,hws,hwc,hw2]
 generalize (beg inn 1 op st r0 r1 r2 r3 at_ h mk)=BB at hB1 hB2 hB3 hB4 hB5 hB6 hB7 ⊢
 obtain ⟨R0,R1,R2,R3,AT,H,MK⟩:=BB
 dsimp only at hB1 hB2 hB3 hB4 hB5 hB6 hB7 ⊢
 refine bt (v:=((xLn (d,a,b,e) (st+1) cl ln R0 R1 R2 R3 AT c0 c1 c2 H).1,(xLn (d,a,b,e) (st+1) cl ln R0 R1 R2 R3 AT c0 c1 c2 H).2.1,(xLn (d,a,b,e) (st+1) cl ln R0 R1 R2 R3 AT c0 c1 c2 H).2.2.1,(xLn (d,a,b,e) (st+1) cl ln R0 R1 R2 R3 AT c0 c1 c2 H).2.2.2.1,(xLn (d,a,b,e) (st+1) cl ln R0 R1 R2 R3 AT c0 c1 c2 H).2.2.2.2.1,(xLn (d,a,b,e) (st+1) cl ln R0 R1 R2 R3 AT c0 c1 c2 H).2.2.2.2.2.1,(xLn (d,a,b,e) (st+1) cl ln R0 R1 R2 R3 AT c0 c1 c2 H).2.2.2.2.2.2.1,(xLn (d,a,b,e) (st+1) cl ln R0 R1 R2 R3 AT c0 c1 c2 H).2.2.2.2.2.2.2.1,(xLn (d,a,b,e) (st+1) cl ln R0 R1 R2 R3 AT c0 c1 c2 H).2.2.2.2.2.2.2.2.1,eCalls (xLn (d,a,b,e) (st+1) cl ln R0 R1 R2 R3 AT c0 c1 c2 H).2.2.2.2.2.2.2.2.2)) ?_ rfl
 rcases okLine_do hok with ⟨h1,hA,hBb⟩ | ⟨h1,hA,hBb⟩ | ⟨h1,hA,hBb,hCc⟩ | ⟨h1,hA,hBb⟩ | ⟨h1,hA,hBb,hCc⟩ | ⟨h1,hA,hBb,_⟩ | ⟨h1,hA⟩
 all_goals (simp only at h1;subst h1;try dsimp only at hA;try dsimp only at hBb;try dsimp only at hCc)
 ·exact cnT rfl (bt (ckc0 hBb) (bt (ckc1 hBb) (bt (gc3 hBb) (bt (ckr0 hA) (bt (ckr1 hA) rfl)))))
 ·exact cnF rfl (bt (v:=((xLn (2,a,b,e) (st+1) cl ln R0 R1 R2 R3 AT c0 c1 c2 H).1,(xLn (2,a,b,e) (st+1) cl ln R0 R1 R2 R3 AT c0 c1 c2 H).2.1,(xLn (2,a,b,e) (st+1) cl ln R0 R1 R2 R3 AT c0 c1 c2 H).2.2.1,(xLn (2,a,b,e) (st+1) cl ln R0 R1 R2 R3 AT c0 c1 c2 H).2.2.2.1,(xLn (2,a,b,e) (st+1) cl ln R0 R1 R2 R3 AT c0 c1 c2 H).2.2.2.2.1,(xLn (2,a,b,e) (st+1) cl ln R0 R1 R2 R3 AT c0 c1 c2 H).2.2.2.2.2.1,(xLn (2,a,b,e) (st+1) cl ln R0 R1 R2 R3 AT c0 c1 c2 H).2.2.2.2.2.2.1,(xLn (2,a,b,e) (st+1) cl ln R0 R1 R2 R3 AT c0 c1 c2 H).2.2.2.2.2.2.2.1,(xLn (2,a,b,e) (st+1) cl ln R0 R1 R2 R3 AT c0 c1 c2 H).2.2.2.2.2.2.2.2.1,eCalls (xLn (2,a,b,e) (st+1) cl ln R0 R1 R2 R3 AT c0 c1 c2 H).2.2.2.2.2.2.2.2.2)) (cnT rfl (bt (ckr0 hBb) (bt (ckr1 hBb) (bt (gc4 hBb) (bt (ckc0 hA) (bt (ckc1 hA) rfl)))))) rfl)
 ·refine cnF rfl (bt (v:=((xLn (3,a,b,e) (st+1) cl ln R0 R1 R2 R3 AT c0 c1 c2 H).1,(xLn (3,a,b,e) (st+1) cl ln R0 R1 R2 R3 AT c0 c1 c2 H).2.1,(xLn (3,a,b,e) (st+1) cl ln R0 R1 R2 R3 AT c0 c1 c2 H).2.2.1,(xLn (3,a,b,e) (st+1) cl ln R0 R1 R2 R3 AT c0 c1 c2 H).2.2.2.1,(xLn (3,a,b,e) (st+1) cl ln R0 R1 R2 R3 AT c0 c1 c2 H).2.2.2.2.1,(xLn (3,a,b,e) (st+1) cl ln R0 R1 R2 R3 AT c0 c1 c2 H).2.2.2.2.2.1,(xLn (3,a,b,e) (st+1) cl ln R0 R1 R2 R3 AT c0 c1 c2 H).2.2.2.2.2.2.1,(xLn (3,a,b,e) (st+1) cl ln R0 R1 R2 R3 AT c0 c1 c2 H).2.2.2.2.2.2.2.1,(xLn (3,a,b,e) (st+1) cl ln R0 R1 R2 R3 AT c0 c1 c2 H).2.2.2.2.2.2.2.2.1,eCalls (xLn (3,a,b,e) (st+1) cl ln R0 R1 R2 R3 AT c0 c1 c2 H).2.2.2.2.2.2.2.2.2)) (cnF rfl (bt (v:=((xLn (3,a,b,e) (st+1) cl ln R0 R1 R2 R3 AT c0 c1 c2 H).1,(xLn (3,a,b,e) (st+1) cl ln R0 R1 R2 R3 AT c0 c1 c2 H).2.1,(xLn (3,a,b,e) (st+1) cl ln R0 R1 R2 R3 AT c0 c1 c2 H).2.2.1,(xLn (3,a,b,e) (st+1) cl ln R0 R1 R2 R3 AT c0 c1 c2 H).2.2.2.1,(xLn (3,a,b,e) (st+1) cl ln R0 R1 R2 R3 AT c0 c1 c2 H).2.2.2.2.1,(xLn (3,a,b,e) (st+1) cl ln R0 R1 R2 R3 AT c0 c1 c2 H).2.2.2.2.2.1,(xLn (3,a,b,e) (st+1) cl ln R0 R1 R2 R3 AT c0 c1 c2 H).2.2.2.2.2.2.1,(xLn (3,a,b,e) (st+1) cl ln R0 R1 R2 R3 AT c0 c1 c2 H).2.2.2.2.2.2.2.1,(xLn (3,a,b,e) (st+1) cl ln R0 R1 R2 R3 AT c0 c1 c2 H).2.2.2.2.2.2.2.2.1,eCalls (xLn (3,a,b,e) (st+1) cl ln R0 R1 R2 R3 AT c0 c1 c2 H).2.2.2.2.2.2.2.2.2)) (cnT rfl (bt (Z120a_eq _ _ _ _ _ _ _ _ _ _ _ _ _ _ _ _ _ _ _ _ _ _ _ _ _ _ hA hBb hCc) ?_)) rfl)) rfl)
  simp only [xLn]
  by_cases hq:rg3 c0 c1 c2 a=rg4 R0 R1 R2 R3 b
  ·simp only [if_pos hq];rfl
  ·simp only [if_neg hq];rfl
 ·exact cnF rfl (bt (v:=((xLn (4,a,b,e) (st+1) cl ln R0 R1 R2 R3 AT c0 c1 c2 H).1,(xLn (4,a,b,e) (st+1) cl ln R0 R1 R2 R3 AT c0 c1 c2 H).2.1,(xLn (4,a,b,e) (st+1) cl ln R0 R1 R2 R3 AT c0 c1 c2 H).2.2.1,(xLn (4,a,b,e) (st+1) cl ln R0 R1 R2 R3 AT c0 c1 c2 H).2.2.2.1,(xLn (4,a,b,e) (st+1) cl ln R0 R1 R2 R3 AT c0 c1 c2 H).2.2.2.2.1,(xLn (4,a,b,e) (st+1) cl ln R0 R1 R2 R3 AT c0 c1 c2 H).2.2.2.2.2.1,(xLn (4,a,b,e) (st+1) cl ln R0 R1 R2 R3 AT c0 c1 c2 H).2.2.2.2.2.2.1,(xLn (4,a,b,e) (st+1) cl ln R0 R1 R2 R3 AT c0 c1 c2 H).2.2.2.2.2.2.2.1,(xLn (4,a,b,e) (st+1) cl ln R0 R1 R2 R3 AT c0 c1 c2 H).2.2.2.2.2.2.2.2.1,eCalls (xLn (4,a,b,e) (st+1) cl ln R0 R1 R2 R3 AT c0 c1 c2 H).2.2.2.2.2.2.2.2.2)) (cnF rfl (bt (v:=((xLn (4,a,b,e) (st+1) cl ln R0 R1 R2 R3 AT c0 c1 c2 H).1,(xLn (4,a,b,e) (st+1) cl ln R0 R1 R2 R3 AT c0 c1 c2 H).2.1,(xLn (4,a,b,e) (st+1) cl ln R0 R1 R2 R3 AT c0 c1 c2 H).2.2.1,(xLn (4,a,b,e) (st+1) cl ln R0 R1 R2 R3 AT c0 c1 c2 H).2.2.2.1,(xLn (4,a,b,e) (st+1) cl ln R0 R1 R2 R3 AT c0 c1 c2 H).2.2.2.2.1,(xLn (4,a,b,e) (st+1) cl ln R0 R1 R2 R3 AT c0 c1 c2 H).2.2.2.2.2.1,(xLn (4,a,b,e) (st+1) cl ln R0 R1 R2 R3 AT c0 c1 c2 H).2.2.2.2.2.2.1,(xLn (4,a,b,e) (st+1) cl ln R0 R1 R2 R3 AT c0 c1 c2 H).2.2.2.2.2.2.2.1,(xLn (4,a,b,e) (st+1) cl ln R0 R1 R2 R3 AT c0 c1 c2 H).2.2.2.2.2.2.2.2.1,eCalls (xLn (4,a,b,e) (st+1) cl ln R0 R1 R2 R3 AT c0 c1 c2 H).2.2.2.2.2.2.2.2.2)) (cnF rfl (bt (v:=(cl,ln+1,pk a 0 b R0,pk a 1 b R1,pk a 2 b R2,pk a 3 b R3,eCalls H)) (cnT rfl (bt (ckr0 hA) (bt (ckr1 hA) rfl))) rfl)) rfl)) rfl)
 ·have hs:Ar.std.rem (Ar.std.wrp .i64 (Ar.std.zadd (rg4 R0 R1 R2 R3 b) (rg4 R0 R1 R2 R3 e))) 10=((rg4 R0 R1 R2 R3 b+rg4 R0 R1 R2 R3 e).tmod 10):=by
   have q1:=rg4_dg (i:=b) hB4 hB5 hB6 hB7;have q2:=rg4_dg (i:=e) hB4 hB5 hB6 hB7
   simp only [std_rem,std_wrp,std_zadd];rw [w64 (by have:=q1.1;have:=q2.1;omega) (by have:=q1.2;have:=q2.2;omega)]
  refine cnF rfl (bt (v:=((xLn (5,a,b,e) (st+1) cl ln R0 R1 R2 R3 AT c0 c1 c2 H).1,(xLn (5,a,b,e) (st+1) cl ln R0 R1 R2 R3 AT c0 c1 c2 H).2.1,(xLn (5,a,b,e) (st+1) cl ln R0 R1 R2 R3 AT c0 c1 c2 H).2.2.1,(xLn (5,a,b,e) (st+1) cl ln R0 R1 R2 R3 AT c0 c1 c2 H).2.2.2.1,(xLn (5,a,b,e) (st+1) cl ln R0 R1 R2 R3 AT c0 c1 c2 H).2.2.2.2.1,(xLn (5,a,b,e) (st+1) cl ln R0 R1 R2 R3 AT c0 c1 c2 H).2.2.2.2.2.1,(xLn (5,a,b,e) (st+1) cl ln R0 R1 R2 R3 AT c0 c1 c2 H).2.2.2.2.2.2.1,(xLn (5,a,b,e) (st+1) cl ln R0 R1 R2 R3 AT c0 c1 c2 H).2.2.2.2.2.2.2.1,(xLn (5,a,b,e) (st+1) cl ln R0 R1 R2 R3 AT c0 c1 c2 H).2.2.2.2.2.2.2.2.1,eCalls (xLn (5,a,b,e) (st+1) cl ln R0 R1 R2 R3 AT c0 c1 c2 H).2.2.2.2.2.2.2.2.2)) (cnF rfl (bt (v:=((xLn (5,a,b,e) (st+1) cl ln R0 R1 R2 R3 AT c0 c1 c2 H).1,(xLn (5,a,b,e) (st+1) cl ln R0 R1 R2 R3 AT c0 c1 c2 H).2.1,(xLn (5,a,b,e) (st+1) cl ln R0 R1 R2 R3 AT c0 c1 c2 H).2.2.1,(xLn (5,a,b,e) (st+1) cl ln R0 R1 R2 R3 AT c0 c1 c2 H).2.2.2.1,(xLn (5,a,b,e) (st+1) cl ln R0 R1 R2 R3 AT c0 c1 c2 H).2.2.2.2.1,(xLn (5,a,b,e) (st+1) cl ln R0 R1 R2 R3 AT c0 c1 c2 H).2.2.2.2.2.1,(xLn (5,a,b,e) (st+1) cl ln R0 R1 R2 R3 AT c0 c1 c2 H).2.2.2.2.2.2.1,(xLn (5,a,b,e) (st+1) cl ln R0 R1 R2 R3 AT c0 c1 c2 H).2.2.2.2.2.2.2.1,(xLn (5,a,b,e) (st+1) cl ln R0 R1 R2 R3 AT c0 c1 c2 H).2.2.2.2.2.2.2.2.1,eCalls (xLn (5,a,b,e) (st+1) cl ln R0 R1 R2 R3 AT c0 c1 c2 H).2.2.2.2.2.2.2.2.2)) (cnF rfl (bt (v:=(cl,ln+1,pk a 0 ((rg4 R0 R1 R2 R3 b+rg4 R0 R1 R2 R3 e).tmod 10) R0,pk a 1 ((rg4 R0 R1 R2 R3 b+rg4 R0 R1 R2 R3 e).tmod 10) R1,pk a 2 ((rg4 R0 R1 R2 R3 b+rg4 R0 R1 R2 R3 e).tmod 10) R2,pk a 3 ((rg4 R0 R1 R2 R3 b+rg4 R0 R1 R2 R3 e).tmod 10) R3,eCalls H)) (cnF rfl (bt (v:=(cl,ln+1,pk a 0 ((rg4 R0 R1 R2 R3 b+rg4 R0 R1 R2 R3 e).tmod 10) R0,pk a 1 ((rg4 R0 R1 R2 R3 b+rg4 R0 R1 R2 R3 e).tmod 10) R1,pk a 2 ((rg4 R0 R1 R2 R3 b+rg4 R0 R1 R2 R3 e).tmod 10) R2,pk a 3 ((rg4 R0 R1 R2 R3 b+rg4 R0 R1 R2 R3 e).tmod 10) R3,eCalls H)) (cnT rfl (bt (ckr0 hBb) (bt (ckr1 hBb) (bt (gc4 hBb) (bt (ckr0 hCc) (bt (ckr1 hCc) (bt (gc4 hCc) (bt (v:=()) rfl (bt (ckr0 hA) (bt (ckr1 hA) ?_)))))))))) rfl)) rfl)) rfl)) rfl)
  simp only [hs];rfl
 ·refine cnF rfl (bt (v:=((xLn (6,a,b,e) (st+1) cl ln R0 R1 R2 R3 AT c0 c1 c2 H).1,(xLn (6,a,b,e) (st+1) cl ln R0 R1 R2 R3 AT c0 c1 c2 H).2.1,(xLn (6,a,b,e) (st+1) cl ln R0 R1 R2 R3 AT c0 c1 c2 H).2.2.1,(xLn (6,a,b,e) (st+1) cl ln R0 R1 R2 R3 AT c0 c1 c2 H).2.2.2.1,(xLn (6,a,b,e) (st+1) cl ln R0 R1 R2 R3 AT c0 c1 c2 H).2.2.2.2.1,(xLn (6,a,b,e) (st+1) cl ln R0 R1 R2 R3 AT c0 c1 c2 H).2.2.2.2.2.1,(xLn (6,a,b,e) (st+1) cl ln R0 R1 R2 R3 AT c0 c1 c2 H).2.2.2.2.2.2.1,(xLn (6,a,b,e) (st+1) cl ln R0 R1 R2 R3 AT c0 c1 c2 H).2.2.2.2.2.2.2.1,(xLn (6,a,b,e) (st+1) cl ln R0 R1 R2 R3 AT c0 c1 c2 H).2.2.2.2.2.2.2.2.1,eCalls (xLn (6,a,b,e) (st+1) cl ln R0 R1 R2 R3 AT c0 c1 c2 H).2.2.2.2.2.2.2.2.2)) (cnF rfl (bt (v:=((xLn (6,a,b,e) (st+1) cl ln R0 R1 R2 R3 AT c0 c1 c2 H).1,(xLn (6,a,b,e) (st+1) cl ln R0 R1 R2 R3 AT c0 c1 c2 H).2.1,(xLn (6,a,b,e) (st+1) cl ln R0 R1 R2 R3 AT c0 c1 c2 H).2.2.1,(xLn (6,a,b,e) (st+1) cl ln R0 R1 R2 R3 AT c0 c1 c2 H).2.2.2.1,(xLn (6,a,b,e) (st+1) cl ln R0 R1 R2 R3 AT c0 c1 c2 H).2.2.2.2.1,(xLn (6,a,b,e) (st+1) cl ln R0 R1 R2 R3 AT c0 c1 c2 H).2.2.2.2.2.1,(xLn (6,a,b,e) (st+1) cl ln R0 R1 R2 R3 AT c0 c1 c2 H).2.2.2.2.2.2.1,(xLn (6,a,b,e) (st+1) cl ln R0 R1 R2 R3 AT c0 c1 c2 H).2.2.2.2.2.2.2.1,(xLn (6,a,b,e) (st+1) cl ln R0 R1 R2 R3 AT c0 c1 c2 H).2.2.2.2.2.2.2.2.1,eCalls (xLn (6,a,b,e) (st+1) cl ln R0 R1 R2 R3 AT c0 c1 c2 H).2.2.2.2.2.2.2.2.2)) (cnF rfl (bt (v:=(cl,(if rg4 R0 R1 R2 R3 a=0 then b else ln+1),R0,R1,R2,R3,eCalls H)) (cnF rfl (bt (v:=(cl,(if rg4 R0 R1 R2 R3 a=0 then b else ln+1),R0,R1,R2,R3,eCalls H)) (cnF rfl (bt (v:=(cl,(if rg4 R0 R1 R2 R3 a=0 then b else ln+1),eCalls H)) (cnT rfl (bt (ckr0 hA) (bt (ckr1 hA) (bt (gc4 hA) (bt (v:=if rg4 R0 R1 R2 R3 a=0 then b else ln+1) ?_ rfl))))) rfl)) rfl)) rfl)) rfl)) rfl)
  by_cases hq:rg4 R0 R1 R2 R3 a=0
  ·rw [if_pos hq,std_zeq];exact cnT (decide_eq_true hq) rfl
  ·rw [if_neg hq,std_zeq];exact cnF (decide_eq_false hq) rfl
 ·obtain ⟨x,hx⟩ : ∃ x,H[AT.toNat]?=some x:=⟨_,zp1 (by omega)⟩
  obtain ⟨x1,x2,x3,x4,x5,x6⟩:=x
  have hlt:AT.toNat<H.length:=(zp2.1 hx).1
  have g1:gc Ar.std cCall (eCalls H) (Ar.std.nat AT)=some (x1,x2,x3,x4,x5,x6):=gc_enc (by simpa using hx)
  have e1:Ar.std.lset (eCalls H) (Ar.std.nat AT) (.agg [.int .i64 x1,.int .i64 x2,.int .i64 x3,.int .i64 x4,.int .i64 x5,.int .i64 (2*(st+1))])=eCalls (H.set AT.toNat (x1,x2,x3,x4,x5,2*(st+1))):=enc_set (c:=cCall) H AT.toNat (x1,x2,x3,x4,x5,2*(st+1))
  have g2:gc Ar.std cCall (eCalls (H.set AT.toNat (x1,x2,x3,x4,x5,2*(st+1)))) (Ar.std.nat AT)=some (x1,x2,x3,x4,x5,2*(st+1)):=gc_enc (by simp [hlt])
  have e2:Ar.std.lset (eCalls (H.set AT.toNat (x1,x2,x3,x4,x5,2*(st+1)))) (Ar.std.nat AT) (.agg [.int .i64 x1,.int .i64 x2,.int .i64 x3,.int .i64 (rg4 R0 R1 R2 R3 a),.int .i64 x5,.int .i64 (2*(st+1))])=eCalls (H.set AT.toNat (x1,x2,x3,rg4 R0 R1 R2 R3 a,x5,2*(st+1))):=by
   refine (enc_set (c:=cCall) _ AT.toNat (x1,x2,x3,rg4 R0 R1 R2 R3 a,x5,2*(st+1))).trans ?_
   rw [List.set_set]
  have hxx:xLn (7,a,b,e) (st+1) cl ln R0 R1 R2 R3 AT c0 c1 c2 H=(cl+1,0,R0,R1,R2,R3,c0,c1,c2,H.set AT.toNat (x1,x2,x3,rg4 R0 R1 R2 R3 a,x5,2*(st+1))):=by
   simp only [xLn,hx];rfl
  rw [hxx]
  refine cnF rfl (bt (v:=(cl+1,0,R0,R1,R2,R3,c0,c1,c2,eCalls (H.set AT.toNat (x1,x2,x3,rg4 R0 R1 R2 R3 a,x5,2*(st+1))))) (cnF rfl (bt (v:=(cl+1,0,R0,R1,R2,R3,c0,c1,c2,eCalls (H.set AT.toNat (x1,x2,x3,rg4 R0 R1 R2 R3 a,x5,2*(st+1))))) (cnF rfl (bt (v:=(cl+1,0,R0,R1,R2,R3,eCalls (H.set AT.toNat (x1,x2,x3,rg4 R0 R1 R2 R3 a,x5,2*(st+1))))) (cnF rfl (bt (v:=(cl+1,0,R0,R1,R2,R3,eCalls (H.set AT.toNat (x1,x2,x3,rg4 R0 R1 R2 R3 a,x5,2*(st+1))))) (cnF rfl (bt (v:=(cl+1,0,eCalls (H.set AT.toNat (x1,x2,x3,rg4 R0 R1 R2 R3 a,x5,2*(st+1))))) (cnF rfl (bt (v:=(cl+1,0,eCalls (H.set AT.toNat (x1,x2,x3,rg4 R0 R1 R2 R3 a,x5,2*(st+1))))) (cnT rfl (bt (ck_of (by simpa using hB1)) (bt (ck_of (by simpa using hB2)) (bt (ckr0 hA) (bt (ckr1 hA) (bt (gc4 hA) (bt g1 ?_))))))) rfl)) rfl)) rfl)) rfl)) rfl)) rfl)
  dsimp only
  rw [e1]
  refine bt g2 ?_
  dsimp only
  rw [e2]
end Go.Am

namespace Go.Am
open Go
abbrev H8:=Int×Int×Bool×Int×Int×Int×Int×Int
abbrev cH8:Cod H8:=cG (lc (cI .i64) (lc (cI .i64) (lc cB (lc (cI .i64) (lc (cI .i64) (lc (cI .i64) (lc (cI .i64) (l1 (cI .i64)))))))))
abbrev eHs (l:List H8):List D:=enc cH8 l
theorem hs_set (l:List H8) (t:Nat) (a b:Int) (c:Bool) (d e f g h:Int):Ar.std.lset (eHs l) (Ar.std.nat (t:Int)) (.agg [.int .i64 a,.int .i64 b,.bool c,.int .i64 d,.int .i64 e,.int .i64 f,.int .i64 g,.int .i64 h])=eHs (l.set t (a,b,c,d,e,f,g,h)):=enc_set (c:=cH8) l t (a,b,c,d,e,f,g,h)
theorem hs_get {l:List H8} {t:Nat} (h:t<l.length) (v:H8):gc Ar.std cH8 (eHs (l.set t v)) (Ar.std.nat (t:Int))=some v:=gc_enc (c:=cH8) (i:=t) (by simp [h])
def newH (l:Ln4) (CC ln AT:Int) (X:Xs):H8:=(CC,(bif decide (l.1=7) then ln+1 else X.2.1),!decide (l.1=7),AT,X.2.2.1,X.2.2.2.1,X.2.2.2.2.1,X.2.2.2.2.2.1)
theorem map1_set (mk:List Int) (i:Nat) (k:Int):(mk.map (· - 1)).set i k=(mk.set i (k+1)).map (· - 1):=by
 rw [List.map_set];congr 1;omega
theorem Z104_eq (c:Code) (u:Tab) (mks:List Int) (t:Nat) (hs:List H8) (calls lnR at_ r0 r1 r2 r3 cl ln c0 c1 c2 st:Int) (h:List Call) (mk:List Int) (inn:Bool) (op:Int) (w:List Int) (ls:List Ln4) (l:Ln4)
  (ht:hs[t]?=some (calls,lnR,inn,at_,r0,r1,r2,r3)) (hcalls:calls=cl+(bif inn then 1 else 0)) (hlnR:ln=bif inn then lnR else 0)
  (hu:u[t]?=some w) (hcl:0<=cl/\cl<=1000) (hw:w[cl.toNat]?=some op) (hop:0<=op) (hc:c[op.toNat]?=some ls) (hln:0<=ln/\ln<=1000) (hl:ls[ln.toNat]?=some l) {m:Int} (hok:okLine l m=true)
  (hh:h.length<1000) (hm:mk.length=h.length) (hat:inn=true->0<=at_ /\ ∃ x,h[at_.toNat]?=some x/\x.2.2.1=op) (hst:0<=st/\st<=1000) (hmk:mks=[]\/op.toNat<mks.length)
  (d0:dg r0) (d1:dg r1) (d2:dg r2) (d3:dg r3) :
  Z104 Ar.std (t:Int) (eCode c) (eTab u) (eInts mks) st c0 c1 c2 (eHs hs) (eCalls h) (eInts (mk.map (· - 1))) =
   some (eCode c,eTab u,eInts mks,st+1,(xLn l (st+1) cl ln (beg inn t op st r0 r1 r2 r3 at_ h mk).1 (beg inn t op st r0 r1 r2 r3 at_ h mk).2.1 (beg inn t op st r0 r1 r2 r3 at_ h mk).2.2.1 (beg inn t op st r0 r1 r2 r3 at_ h mk).2.2.2.1 (beg inn t op st r0 r1 r2 r3 at_ h mk).2.2.2.2.1 c0 c1 c2 (beg inn t op st r0 r1 r2 r3 at_ h mk).2.2.2.2.2.1).2.2.2.2.2.2.1,(xLn l (st+1) cl ln (beg inn t op st r0 r1 r2 r3 at_ h mk).1 (beg inn t op st r0 r1 r2 r3 at_ h mk).2.1 (beg inn t op st r0 r1 r2 r3 at_ h mk).2.2.1 (beg inn t op st r0 r1 r2 r3 at_ h mk).2.2.2.1 (beg inn t op st r0 r1 r2 r3 at_ h mk).2.2.2.2.1 c0 c1 c2 (beg inn t op st r0 r1 r2 r3 at_ h mk).2.2.2.2.2.1).2.2.2.2.2.2.2.1,(xLn l (st+1) cl ln (beg inn t op st r0 r1 r2 r3 at_ h mk).1 (beg inn t op st r0 r1 r2 r3 at_ h mk).2.1 (beg inn t op st r0 r1 r2 r3 at_ h mk).2.2.1 (beg inn t op st r0 r1 r2 r3 at_ h mk).2.2.2.1 (beg inn t op st r0 r1 r2 r3 at_ h mk).2.2.2.2.1 c0 c1 c2 (beg inn t op st r0 r1 r2 r3 at_ h mk).2.2.2.2.2.1).2.2.2.2.2.2.2.2.1,eHs (hs.set t (newH l (cl+1) ln (beg inn t op st r0 r1 r2 r3 at_ h mk).2.2.2.2.1 (xLn l (st+1) cl ln (beg inn t op st r0 r1 r2 r3 at_ h mk).1 (beg inn t op st r0 r1 r2 r3 at_ h mk).2.1 (beg inn t op st r0 r1 r2 r3 at_ h mk).2.2.1 (beg inn t op st r0 r1 r2 r3 at_ h mk).2.2.2.1 (beg inn t op st r0 r1 r2 r3 at_ h mk).2.2.2.2.1 c0 c1 c2 (beg inn t op st r0 r1 r2 r3 at_ h mk).2.2.2.2.2.1))),eCalls (xLn l (st+1) cl ln (beg inn t op st r0 r1 r2 r3 at_ h mk).1 (beg inn t op st r0 r1 r2 r3 at_ h mk).2.1 (beg inn t op st r0 r1 r2 r3 at_ h mk).2.2.1 (beg inn t op st r0 r1 r2 r3 at_ h mk).2.2.2.1 (beg inn t op st r0 r1 r2 r3 at_ h mk).2.2.2.2.1 c0 c1 c2 (beg inn t op st r0 r1 r2 r3 at_ h mk).2.2.2.2.2.1).2.2.2.2.2.2.2.2.2,
    eInts ((mkd mks op ln (beg inn t op st r0 r1 r2 r3 at_ h mk).2.2.2.2.1 (st+1) (beg inn t op st r0 r1 r2 r3 at_ h mk).2.2.2.2.2.2).map (· - 1))):=by
 have htl:t<hs.length:=(zp2.1 ht).1
 have hwl:Ar.std.wrp .i64 (Ar.std.zadd ln 1)=ln+1:=by simp only [std_wrp,std_zadd];exact w64 (by omega) (by omega)
 have hws:Ar.std.wrp .i64 (Ar.std.zadd st 1)=st+1:=by simp only [std_wrp,std_zadd];exact w64 (by omega) (by omega)
 have hw2:Ar.std.wrp .i64 (Ar.std.zadd (Ar.std.wrp .i64 (Ar.std.zmul 2 st)) 2)=2*(st+1):=by
  simp only [std_wrp,std_zmul,std_zadd];rw [w64 (n:=2*st) (by omega) (by omega),w64 (by omega) (by omega)];omega
 have hw3:Ar.std.wrp .i64 (Ar.std.zadd (Ar.std.wrp .i64 (Ar.std.zmul 2 st)) 1)=2*st+1:=by
  simp only [std_wrp,std_zmul,std_zadd];rw [w64 (n:=2*st) (by omega) (by omega),w64 (by omega) (by omega)]
 have hB:0<=(beg inn t op st r0 r1 r2 r3 at_ h mk).2.2.2.2.1/\(∃ x,(beg inn t op st r0 r1 r2 r3 at_ h mk).2.2.2.2.2.1[(beg inn t op st r0 r1 r2 r3 at_ h mk).2.2.2.2.1.toNat]?=some x/\x.2.2.1=op)/\(beg inn t op st r0 r1 r2 r3 at_ h mk).2.2.2.2.2.2.length=(beg inn t op st r0 r1 r2 r3 at_ h mk).2.2.2.2.2.1.length/\dg (beg inn t op st r0 r1 r2 r3 at_ h mk).1/\dg (beg inn t op st r0 r1 r2 r3 at_ h mk).2.1/\dg (beg inn t op st r0 r1 r2 r3 at_ h mk).2.2.1/\dg (beg inn t op st r0 r1 r2 r3 at_ h mk).2.2.2.1:=by
  cases inn with
  | true=>exact ⟨(hat rfl).1,(hat rfl).2,hm,d0,d1,d2,d3⟩
  | false =>
    refine ⟨?_,⟨(t,0,op,0,2*st+1,0),?_,rfl⟩,?_,?_,?_,?_,?_⟩
    ·simp [beg]
    ·show (h++[((t:Int),0,op,0,2*st+1,0)])[((h.length:Int)).toNat]?=_
     simp
    ·simp [beg,hm]
    all_goals simp [beg,dg]

 obtain ⟨H1,hH1,hset,hbeg⟩ : ∃ H1:List H8,H1[t]?=some (cl+1,ln,true,(beg inn t op st r0 r1 r2 r3 at_ h mk).2.2.2.2.1,(beg inn t op st r0 r1 r2 r3 at_ h mk).1,(beg inn t op st r0 r1 r2 r3 at_ h mk).2.1,(beg inn t op st r0 r1 r2 r3 at_ h mk).2.2.1,(beg inn t op st r0 r1 r2 r3 at_ h mk).2.2.2.1)/\(∀ v,H1.set t v=hs.set t v) /\
   (bif inn then some (eHs hs,eCalls h,eInts (mk.map (· - 1))) else
    (gt Ar.std (cL 1) (eTab u) (t:Int)).bind fun a27 =>
    (gc Ar.std cH8 (Ar.std.lset (eHs hs) (Ar.std.nat (t:Int)) (.agg [(.int .i64 (Ar.std.wrp .i64 (Ar.std.zadd calls 1))),(.int .i64 0),(.bool true),(.int .i64 (Ar.std.len (eCalls h))),(.int .i64 0),(.int .i64 1),(.int .i64 0),(.int .i64 0)])) (Ar.std.nat (t:Int))).bind fun (a31,a32,a33,a34,a35,a36,a37,a38) =>
    (gt Ar.std (cI .i64) a27 (Ar.std.wrp .i64 (Ar.std.zsub a31 1))).bind fun a41 =>
    (ap Ar.std (eCalls h) [(.agg [(.int .i64 (t:Int)),(.int .i64 0),(.int .i64 a41),(.int .i64 0),(.int .i64 (Ar.std.wrp .i64 (Ar.std.zadd (Ar.std.wrp .i64 (Ar.std.zmul 2 st)) 1))),(.int .i64 0)])]).bind fun l45 =>
    (ap Ar.std (eInts (mk.map (· - 1))) [(.int .i64 (-1))]).bind fun l49 =>
    some ((Ar.std.lset (eHs hs) (Ar.std.nat (t:Int)) (.agg [(.int .i64 (Ar.std.wrp .i64 (Ar.std.zadd calls 1))),(.int .i64 0),(.bool true),(.int .i64 (Ar.std.len (eCalls h))),(.int .i64 0),(.int .i64 1),(.int .i64 0),(.int .i64 0)])),l45,l49):Option (List D×List D×List D)) =
   some (eHs H1,eCalls (beg inn t op st r0 r1 r2 r3 at_ h mk).2.2.2.2.2.1,eInts ((beg inn t op st r0 r1 r2 r3 at_ h mk).2.2.2.2.2.2.map (· - 1))):=by
  cases inn with
  | true =>
    refine ⟨hs,?_,fun _=>rfl,rfl⟩
    rw [ht,hcalls,hlnR];rfl
  | false =>
    have hc0:calls=cl:=by rw [hcalls];simp
    have hl0:ln=0:=hlnR
    subst hc0 hl0
    refine ⟨hs.set t (calls+1,0,true,h.length,0,1,0,0),by rw [List.getElem?_set_self htl];rfl,fun v=>by rw [List.set_set],?_⟩
    have hwc:Ar.std.wrp .i64 (Ar.std.zadd calls 1)=calls+1:=by simp only [std_wrp,std_zadd];exact w64 (by omega) (by omega)
    have hwm:Ar.std.wrp .i64 (Ar.std.zsub (calls+1) 1)=calls:=by simp only [std_wrp,std_zsub];rw [w64 (by omega) (by omega)];omega
    rw [hwc,hw3,len_enc,hs_set]
    refine cnF rfl (bt (gt_eTab hu) (bt (hs_get htl _) ?_))
    dsimp only
    rw [hwm]
    refine bt (gt_encI hcl.1 hw) (bt (ap_enc1 (c:=cCall) (a:=((t:Int),0,op,0,2*st+1,0)) rfl (by omega)) (bt (ap_enc1 (c:=cI .i64) (a := -1) rfl (by simp;omega)) ?_))
    simp only [beg,cond_false,List.map_append]
    rfl
 have hH1l:t<H1.length:=(zp2.1 hH1).1
 unfold Z104
 refine bt (ck_of (by simp)) (bt (ck_of (by simp;omega)) (bt (gc_enc (c:=cH8) (i:=t) ht) ?_))
 dsimp only
 refine bt hbeg ?_
 obtain ⟨hB1,⟨x,hx,hxo⟩,hB3,hB4,hB5,hB6,hB7⟩:=hB
 obtain ⟨x1,x2,x3,x4,x5,x6⟩:=x
 simp only at hxo;subst hxo
 generalize hBB:(beg inn t x3 st r0 r1 r2 r3 at_ h mk)=BB at hx hB1 hB3 hB4 hB5 hB6 hB7 hH1 hbeg ⊢
 obtain ⟨R0,R1,R2,R3,AT,H,MK⟩:=BB
 dsimp only at hx hB1 hB3 hB4 hB5 hB6 hB7 hH1 hbeg ⊢
 have hATl:AT.toNat<H.length:=(zp2.1 hx).1
 refine bt (gc_enc (c:=cH8) (i:=t) hH1) ?_
 dsimp only
 refine bt (ck_of (by simpa using hB1)) (bt (ck_of (by simp;omega)) (bt (gc_enc (c:=cCall) (i:=AT.toNat) hx) ?_))
 dsimp only
 refine bt (gt_eCodeI hop hc) ?_
 obtain ⟨d,a,b,e⟩:=l
 refine bt (gt_encI hln.1 hl) ?_
 dsimp only
 rw [hwl,hws,hw2]
 have hg0 : ∀ v:H8,gc Ar.std cH8 (eHs (H1.set t v)) (Ar.std.nat (t:Int))=some v:=fun v=>hs_get hH1l v
 rw [hs_set]
 refine bt (v:=((xLn (d,a,b,e) (st+1) cl ln R0 R1 R2 R3 AT c0 c1 c2 H).2.2.2.2.2.2.1,(xLn (d,a,b,e) (st+1) cl ln R0 R1 R2 R3 AT c0 c1 c2 H).2.2.2.2.2.2.2.1,(xLn (d,a,b,e) (st+1) cl ln R0 R1 R2 R3 AT c0 c1 c2 H).2.2.2.2.2.2.2.2.1,eHs (H1.set t (newH (d,a,b,e) (cl+1) ln AT (xLn (d,a,b,e) (st+1) cl ln R0 R1 R2 R3 AT c0 c1 c2 H))),eCalls (xLn (d,a,b,e) (st+1) cl ln R0 R1 R2 R3 AT c0 c1 c2 H).2.2.2.2.2.2.2.2.2)) ?_ ?_
 ·rcases okLine_do hok with ⟨h1,hA,hBb⟩ | ⟨h1,hA,hBb⟩ | ⟨h1,hA,hBb,hCc⟩ | ⟨h1,hA,hBb⟩ | ⟨h1,hA,hBb,hCc⟩ | ⟨h1,hA,hBb,_⟩ | ⟨h1,hA⟩
  all_goals (simp only at h1;subst h1;try dsimp only at hA;try dsimp only at hBb;try dsimp only at hCc)
  ·refine cnT rfl (bt (ckc0 hBb) (bt (ckc1 hBb) (bt (gc3 hBb) (bt (ckr0 hA) (bt (ckr1 hA) (bt (hg0 _) ?_))))))
   dsimp only;rw [hs_set,List.set_set];rfl
  ·refine cnF rfl (bt (v:=((xLn (2,a,b,e) (st+1) cl ln R0 R1 R2 R3 AT c0 c1 c2 H).2.2.2.2.2.2.1,(xLn (2,a,b,e) (st+1) cl ln R0 R1 R2 R3 AT c0 c1 c2 H).2.2.2.2.2.2.2.1,(xLn (2,a,b,e) (st+1) cl ln R0 R1 R2 R3 AT c0 c1 c2 H).2.2.2.2.2.2.2.2.1,eHs (H1.set t (newH (2,a,b,e) (cl+1) ln AT (xLn (2,a,b,e) (st+1) cl ln R0 R1 R2 R3 AT c0 c1 c2 H))),eCalls (xLn (2,a,b,e) (st+1) cl ln R0 R1 R2 R3 AT c0 c1 c2 H).2.2.2.2.2.2.2.2.2)) (cnT rfl (bt (ckr0 hBb) (bt (ckr1 hBb) (bt (hg0 _) ?_)))) rfl)
   dsimp only
   exact bt (gc4 hBb) (bt (ckc0 hA) (bt (ckc1 hA) rfl))
  ·refine cnF rfl (bt (v:=((xLn (3,a,b,e) (st+1) cl ln R0 R1 R2 R3 AT c0 c1 c2 H).2.2.2.2.2.2.1,(xLn (3,a,b,e) (st+1) cl ln R0 R1 R2 R3 AT c0 c1 c2 H).2.2.2.2.2.2.2.1,(xLn (3,a,b,e) (st+1) cl ln R0 R1 R2 R3 AT c0 c1 c2 H).2.2.2.2.2.2.2.2.1,eHs (H1.set t (newH (3,a,b,e) (cl+1) ln AT (xLn (3,a,b,e) (st+1) cl ln R0 R1 R2 R3 AT c0 c1 c2 H))),eCalls (xLn (3,a,b,e) (st+1) cl ln R0 R1 R2 R3 AT c0 c1 c2 H).2.2.2.2.2.2.2.2.2)) (cnF rfl (bt (v:=((xLn (3,a,b,e) (st+1) cl ln R0 R1 R2 R3 AT c0 c1 c2 H).2.2.2.2.2.2.1,(xLn (3,a,b,e) (st+1) cl ln R0 R1 R2 R3 AT c0 c1 c2 H).2.2.2.2.2.2.2.1,(xLn (3,a,b,e) (st+1) cl ln R0 R1 R2 R3 AT c0 c1 c2 H).2.2.2.2.2.2.2.2.1,eHs (H1.set t (newH (3,a,b,e) (cl+1) ln AT (xLn (3,a,b,e) (st+1) cl ln R0 R1 R2 R3 AT c0 c1 c2 H))),eCalls (xLn (3,a,b,e) (st+1) cl ln R0 R1 R2 R3 AT c0 c1 c2 H).2.2.2.2.2.2.2.2.2)) (cnT rfl (bt (ckc0 hA) (bt (ckc1 hA) (bt (gc3 hA) (bt (ckr0 hBb) (bt (ckr1 hBb) (bt (hg0 _) ?_))))))) rfl)) rfl)
   dsimp only
   refine bt (gc4 hBb) ?_
   by_cases hq:rg3 c0 c1 c2 a=rg4 R0 R1 R2 R3 b
   ·refine bt (cnT (decide_eq_true hq) (bt (ckr0 hCc) (bt (ckr1 hCc) (bt (gc4 hCc) (bt (ckc0 hA) (bt (ckc1 hA) rfl)))))) ?_
    dsimp only;rw [hs_set,List.set_set]
    simp only [xLn,newH,if_pos hq];rfl
   ·refine bt (cnF (decide_eq_false hq) rfl) ?_
    dsimp only;rw [hs_set,List.set_set]
    simp only [xLn,newH,if_neg hq];rfl
  ·refine cnF rfl (bt (v:=((xLn (4,a,b,e) (st+1) cl ln R0 R1 R2 R3 AT c0 c1 c2 H).2.2.2.2.2.2.1,(xLn (4,a,b,e) (st+1) cl ln R0 R1 R2 R3 AT c0 c1 c2 H).2.2.2.2.2.2.2.1,(xLn (4,a,b,e) (st+1) cl ln R0 R1 R2 R3 AT c0 c1 c2 H).2.2.2.2.2.2.2.2.1,eHs (H1.set t (newH (4,a,b,e) (cl+1) ln AT (xLn (4,a,b,e) (st+1) cl ln R0 R1 R2 R3 AT c0 c1 c2 H))),eCalls (xLn (4,a,b,e) (st+1) cl ln R0 R1 R2 R3 AT c0 c1 c2 H).2.2.2.2.2.2.2.2.2)) (cnF rfl (bt (v:=((xLn (4,a,b,e) (st+1) cl ln R0 R1 R2 R3 AT c0 c1 c2 H).2.2.2.2.2.2.1,(xLn (4,a,b,e) (st+1) cl ln R0 R1 R2 R3 AT c0 c1 c2 H).2.2.2.2.2.2.2.1,(xLn (4,a,b,e) (st+1) cl ln R0 R1 R2 R3 AT c0 c1 c2 H).2.2.2.2.2.2.2.2.1,eHs (H1.set t (newH (4,a,b,e) (cl+1) ln AT (xLn (4,a,b,e) (st+1) cl ln R0 R1 R2 R3 AT c0 c1 c2 H))),eCalls (xLn (4,a,b,e) (st+1) cl ln R0 R1 R2 R3 AT c0 c1 c2 H).2.2.2.2.2.2.2.2.2)) (cnF rfl (bt (v:=(eHs (H1.set t (newH (4,a,b,e) (cl+1) ln AT (xLn (4,a,b,e) (st+1) cl ln R0 R1 R2 R3 AT c0 c1 c2 H))),eCalls (xLn (4,a,b,e) (st+1) cl ln R0 R1 R2 R3 AT c0 c1 c2 H).2.2.2.2.2.2.2.2.2)) (cnT rfl (bt (ckr0 hA) (bt (ckr1 hA) (bt (hg0 _) ?_)))) rfl)) rfl)) rfl)
   dsimp only;rw [hs_set,List.set_set];rfl
  ·have hs5:Ar.std.rem (Ar.std.wrp .i64 (Ar.std.zadd (rg4 R0 R1 R2 R3 b) (rg4 R0 R1 R2 R3 e))) 10=(rg4 R0 R1 R2 R3 b+rg4 R0 R1 R2 R3 e).tmod 10:=by
    have q1:=rg4_dg (i:=b) hB4 hB5 hB6 hB7;have q2:=rg4_dg (i:=e) hB4 hB5 hB6 hB7
    simp only [std_rem,std_wrp,std_zadd];rw [w64 (by have:=q1.1;have:=q2.1;omega) (by have:=q1.2;have:=q2.2;omega)]
   refine cnF rfl (bt (v:=((xLn (5,a,b,e) (st+1) cl ln R0 R1 R2 R3 AT c0 c1 c2 H).2.2.2.2.2.2.1,(xLn (5,a,b,e) (st+1) cl ln R0 R1 R2 R3 AT c0 c1 c2 H).2.2.2.2.2.2.2.1,(xLn (5,a,b,e) (st+1) cl ln R0 R1 R2 R3 AT c0 c1 c2 H).2.2.2.2.2.2.2.2.1,eHs (H1.set t (newH (5,a,b,e) (cl+1) ln AT (xLn (5,a,b,e) (st+1) cl ln R0 R1 R2 R3 AT c0 c1 c2 H))),eCalls (xLn (5,a,b,e) (st+1) cl ln R0 R1 R2 R3 AT c0 c1 c2 H).2.2.2.2.2.2.2.2.2)) (cnF rfl (bt (v:=((xLn (5,a,b,e) (st+1) cl ln R0 R1 R2 R3 AT c0 c1 c2 H).2.2.2.2.2.2.1,(xLn (5,a,b,e) (st+1) cl ln R0 R1 R2 R3 AT c0 c1 c2 H).2.2.2.2.2.2.2.1,(xLn (5,a,b,e) (st+1) cl ln R0 R1 R2 R3 AT c0 c1 c2 H).2.2.2.2.2.2.2.2.1,eHs (H1.set t (newH (5,a,b,e) (cl+1) ln AT (xLn (5,a,b,e) (st+1) cl ln R0 R1 R2 R3 AT c0 c1 c2 H))),eCalls (xLn (5,a,b,e) (st+1) cl ln R0 R1 R2 R3 AT c0 c1 c2 H).2.2.2.2.2.2.2.2.2)) (cnF rfl (bt (v:=(eHs (H1.set t (newH (5,a,b,e) (cl+1) ln AT (xLn (5,a,b,e) (st+1) cl ln R0 R1 R2 R3 AT c0 c1 c2 H))),eCalls (xLn (5,a,b,e) (st+1) cl ln R0 R1 R2 R3 AT c0 c1 c2 H).2.2.2.2.2.2.2.2.2)) (cnF rfl (bt (v:=(eHs (H1.set t (newH (5,a,b,e) (cl+1) ln AT (xLn (5,a,b,e) (st+1) cl ln R0 R1 R2 R3 AT c0 c1 c2 H))),eCalls (xLn (5,a,b,e) (st+1) cl ln R0 R1 R2 R3 AT c0 c1 c2 H).2.2.2.2.2.2.2.2.2)) (cnT rfl (bt (ckr0 hBb) (bt (ckr1 hBb) (bt (hg0 _) ?_)))) rfl)) rfl)) rfl)) rfl)
   dsimp only
   refine bt (gc4 hBb) (bt (ckr0 hCc) (bt (ckr1 hCc) (bt (gc4 hCc) (bt (v:=()) rfl (bt (ckr0 hA) (bt (ckr1 hA) ?_))))))
   simp only [hs5];rw [hs_set,List.set_set];rfl
  ·refine cnF rfl (bt (v:=((xLn (6,a,b,e) (st+1) cl ln R0 R1 R2 R3 AT c0 c1 c2 H).2.2.2.2.2.2.1,(xLn (6,a,b,e) (st+1) cl ln R0 R1 R2 R3 AT c0 c1 c2 H).2.2.2.2.2.2.2.1,(xLn (6,a,b,e) (st+1) cl ln R0 R1 R2 R3 AT c0 c1 c2 H).2.2.2.2.2.2.2.2.1,eHs (H1.set t (newH (6,a,b,e) (cl+1) ln AT (xLn (6,a,b,e) (st+1) cl ln R0 R1 R2 R3 AT c0 c1 c2 H))),eCalls (xLn (6,a,b,e) (st+1) cl ln R0 R1 R2 R3 AT c0 c1 c2 H).2.2.2.2.2.2.2.2.2)) (cnF rfl (bt (v:=((xLn (6,a,b,e) (st+1) cl ln R0 R1 R2 R3 AT c0 c1 c2 H).2.2.2.2.2.2.1,(xLn (6,a,b,e) (st+1) cl ln R0 R1 R2 R3 AT c0 c1 c2 H).2.2.2.2.2.2.2.1,(xLn (6,a,b,e) (st+1) cl ln R0 R1 R2 R3 AT c0 c1 c2 H).2.2.2.2.2.2.2.2.1,eHs (H1.set t (newH (6,a,b,e) (cl+1) ln AT (xLn (6,a,b,e) (st+1) cl ln R0 R1 R2 R3 AT c0 c1 c2 H))),eCalls (xLn (6,a,b,e) (st+1) cl ln R0 R1 R2 R3 AT c0 c1 c2 H).2.2.2.2.2.2.2.2.2)) (cnF rfl (bt (v:=(eHs (H1.set t (newH (6,a,b,e) (cl+1) ln AT (xLn (6,a,b,e) (st+1) cl ln R0 R1 R2 R3 AT c0 c1 c2 H))),eCalls (xLn (6,a,b,e) (st+1) cl ln R0 R1 R2 R3 AT c0 c1 c2 H).2.2.2.2.2.2.2.2.2)) (cnF rfl (bt (v:=(eHs (H1.set t (newH (6,a,b,e) (cl+1) ln AT (xLn (6,a,b,e) (st+1) cl ln R0 R1 R2 R3 AT c0 c1 c2 H))),eCalls (xLn (6,a,b,e) (st+1) cl ln R0 R1 R2 R3 AT c0 c1 c2 H).2.2.2.2.2.2.2.2.2)) (cnF rfl (bt (v:=(eHs (H1.set t (newH (6,a,b,e) (cl+1) ln AT (xLn (6,a,b,e) (st+1) cl ln R0 R1 R2 R3 AT c0 c1 c2 H))),eCalls (xLn (6,a,b,e) (st+1) cl ln R0 R1 R2 R3 AT c0 c1 c2 H).2.2.2.2.2.2.2.2.2)) (cnT rfl (bt (ckr0 hA) (bt (ckr1 hA) (bt (hg0 _) ?_)))) rfl)) rfl)) rfl)) rfl)) rfl)
   dsimp only
   refine bt (gc4 hA) (bt (v:=eHs (H1.set t (newH (6,a,b,e) (cl+1) ln AT (xLn (6,a,b,e) (st+1) cl ln R0 R1 R2 R3 AT c0 c1 c2 H)))) ?_ rfl)
   by_cases hq:rg4 R0 R1 R2 R3 a=0
   ·rw [std_zeq];refine cnT (decide_eq_true hq) ?_
    rw [hs_set,List.set_set];simp only [xLn,newH,if_pos hq];rfl
   ·rw [std_zeq];refine cnF (decide_eq_false hq) ?_
    simp only [xLn,newH,if_neg hq];rfl
  ·have g1:gc Ar.std cCall (eCalls H) (Ar.std.nat AT)=some (x1,x2,x3,x4,x5,x6):=gc_enc (c:=cCall) (i:=AT.toNat) hx
   have e1:Ar.std.lset (eCalls H) (Ar.std.nat AT) (.agg [.int .i64 x1,.int .i64 x2,.int .i64 x3,.int .i64 x4,.int .i64 x5,.int .i64 (2*(st+1))])=eCalls (H.set AT.toNat (x1,x2,x3,x4,x5,2*(st+1))):=enc_set (c:=cCall) H AT.toNat (x1,x2,x3,x4,x5,2*(st+1))
   have g2:gc Ar.std cCall (eCalls (H.set AT.toNat (x1,x2,x3,x4,x5,2*(st+1)))) (Ar.std.nat AT)=some (x1,x2,x3,x4,x5,2*(st+1)):=gc_enc (c:=cCall) (i:=AT.toNat) (by simp [hATl])
   have e2:Ar.std.lset (eCalls (H.set AT.toNat (x1,x2,x3,x4,x5,2*(st+1)))) (Ar.std.nat AT) (.agg [.int .i64 x1,.int .i64 x2,.int .i64 x3,.int .i64 (rg4 R0 R1 R2 R3 a),.int .i64 x5,.int .i64 (2*(st+1))])=eCalls (H.set AT.toNat (x1,x2,x3,rg4 R0 R1 R2 R3 a,x5,2*(st+1))):=by
    refine (enc_set (c:=cCall) _ AT.toNat (x1,x2,x3,rg4 R0 R1 R2 R3 a,x5,2*(st+1))).trans ?_
    rw [List.set_set]
   have hxx:(xLn (7,a,b,e) (st+1) cl ln R0 R1 R2 R3 AT c0 c1 c2 H)=(cl+1,0,R0,R1,R2,R3,c0,c1,c2,H.set AT.toNat (x1,x2,x3,rg4 R0 R1 R2 R3 a,x5,2*(st+1))):=by
    simp only [xLn,hx];rfl
   rw [hxx]
   refine cnF rfl (bt (v:=(c0,c1,c2,eHs (H1.set t (newH (7,a,b,e) (cl+1) ln AT (cl+1,0,R0,R1,R2,R3,c0,c1,c2,H.set AT.toNat (x1,x2,x3,rg4 R0 R1 R2 R3 a,x5,2*(st+1))))),eCalls (H.set AT.toNat (x1,x2,x3,rg4 R0 R1 R2 R3 a,x5,2*(st+1))))) (cnF rfl (bt (v:=(c0,c1,c2,eHs (H1.set t (newH (7,a,b,e) (cl+1) ln AT (cl+1,0,R0,R1,R2,R3,c0,c1,c2,H.set AT.toNat (x1,x2,x3,rg4 R0 R1 R2 R3 a,x5,2*(st+1))))),eCalls (H.set AT.toNat (x1,x2,x3,rg4 R0 R1 R2 R3 a,x5,2*(st+1))))) (cnF rfl (bt (v:=(eHs (H1.set t (newH (7,a,b,e) (cl+1) ln AT (cl+1,0,R0,R1,R2,R3,c0,c1,c2,H.set AT.toNat (x1,x2,x3,rg4 R0 R1 R2 R3 a,x5,2*(st+1))))),eCalls (H.set AT.toNat (x1,x2,x3,rg4 R0 R1 R2 R3 a,x5,2*(st+1))))) (cnF rfl (bt (v:=(eHs (H1.set t (newH (7,a,b,e) (cl+1) ln AT (cl+1,0,R0,R1,R2,R3,c0,c1,c2,H.set AT.toNat (x1,x2,x3,rg4 R0 R1 R2 R3 a,x5,2*(st+1))))),eCalls (H.set AT.toNat (x1,x2,x3,rg4 R0 R1 R2 R3 a,x5,2*(st+1))))) (cnF rfl (bt (v:=(eHs (H1.set t (newH (7,a,b,e) (cl+1) ln AT (cl+1,0,R0,R1,R2,R3,c0,c1,c2,H.set AT.toNat (x1,x2,x3,rg4 R0 R1 R2 R3 a,x5,2*(st+1))))),eCalls (H.set AT.toNat (x1,x2,x3,rg4 R0 R1 R2 R3 a,x5,2*(st+1))))) (cnF rfl (bt (v:=(eHs (H1.set t (newH (7,a,b,e) (cl+1) ln AT (cl+1,0,R0,R1,R2,R3,c0,c1,c2,H.set AT.toNat (x1,x2,x3,rg4 R0 R1 R2 R3 a,x5,2*(st+1))))),eCalls (H.set AT.toNat (x1,x2,x3,rg4 R0 R1 R2 R3 a,x5,2*(st+1))))) (cnT rfl (bt (hg0 _) ?_)) rfl)) rfl)) rfl)) rfl)) rfl)) rfl)
   dsimp only
   refine bt (ck_of (by simpa using hB1)) (bt (ck_of (by simp;omega)) (bt g1 ?_))
   dsimp only
   rw [e1]
   refine bt (ckr0 hA) (bt (ckr1 hA) (bt (gc4 hA) (bt (ck_of (by simpa using hB1)) (bt (ck_of (by simp;omega)) (bt g2 ?_)))))
   dsimp only
   rw [e2,hs_set,List.set_set];rfl
 ·dsimp only
  have hmkR:(bif Ar.std.zlt x3 (Ar.std.len (eInts mks)) then (gt Ar.std (cI .i64) (eInts mks) x3).bind (fun a=>some (Ar.std.zeq a ln)) else some false:Option Bool)=some (hasMk mks x3 ln):=by
   rcases hmk with rfl | hm'
   ·refine cnF (by simp;omega) rfl
   ·have hg:mks[x3.toNat]?=some mks[x3.toNat]:=zp1 hm'
    have h0:0<mks.length:=by omega
    refine cnT (by simp;omega) (bt (gt_encI hop hg) ?_)
    simp [hasMk,h0,hg]
  refine bt hmkR ?_
  rw [hset]
  refine bt (v:=eInts ((mkd mks x3 ln AT (st+1) MK).map (· - 1))) ?_ ?_
  ·unfold mkd
   cases hasMk mks x3 ln with
   | false=>rfl
   | true =>
     have hg:(MK.map (· - 1))[AT.toNat]?=some ((MK.map (· - 1))[AT.toNat]'(by simp;omega)):=zp1 _
     refine cnT rfl (bt (hs_get htl _) ?_)
     refine bt (ck_of (by simpa [newH] using hB1)) (bt (ck_of (by simp [newH];omega)) (bt (gc_enc (c:=cI .i64) (i:=AT.toNat) hg) ?_))
     refine congrArg some ?_
     refine (enc_set (c:=cI .i64) (MK.map (· - 1)) AT.toNat st).trans ?_
     rw [map1_set];rfl
  ·rfl
end Go.Am

namespace Go.Am
open Go
structure Hd where
 cl:Int
 ln:Int
 r0:Int
 r1:Int
 r2:Int
 r3:Int
 at_:Int
 inn:Bool
structure Mc where
 a:Hd
 b:Hd
 c0:Int
 c1:Int
 c2:Int
 st:Int
 h:List Call
 ms:List Int
def hd0:Hd:=⟨0,0,0,0,0,0,0,false⟩
def mc0:Mc:=⟨hd0,hd0,0,0,0,0,[],[]⟩
def Mc.hd (m:Mc) (t:Nat):Hd:=if t=0 then m.a else m.b
def opOf (u:Tab) (t:Nat) (cl:Int):Int:=(u.getD t []).getD cl.toNat 0
def lnOf (c:Code) (op ln:Int):Ln4:=(c.getD op.toNat []).getD ln.toNat (0,0,0,0)
def stB (u:Tab) (t:Nat) (m:Mc):Int×Int×Int×Int×Int×List Call×List Int :=
 beg (m.hd t).inn t (opOf u t (m.hd t).cl) m.st (m.hd t).r0 (m.hd t).r1 (m.hd t).r2 (m.hd t).r3 (m.hd t).at_ m.h m.ms
def stL (c:Code) (u:Tab) (t:Nat) (m:Mc):Ln4:=lnOf c (opOf u t (m.hd t).cl) (m.hd t).ln
def stX (c:Code) (u:Tab) (t:Nat) (m:Mc):Xs :=
 xLn (stL c u t m) (m.st+1) (m.hd t).cl (m.hd t).ln (stB u t m).1 (stB u t m).2.1 (stB u t m).2.2.1 (stB u t m).2.2.2.1 (stB u t m).2.2.2.2.1 m.c0 m.c1 m.c2 (stB u t m).2.2.2.2.2.1
def stH (c:Code) (u:Tab) (t:Nat) (m:Mc):Hd :=
 ⟨(stX c u t m).1,(stX c u t m).2.1,(stX c u t m).2.2.1,(stX c u t m).2.2.2.1,(stX c u t m).2.2.2.2.1,(stX c u t m).2.2.2.2.2.1,(stB u t m).2.2.2.2.1,!decide ((stL c u t m).1=7)⟩
def stepM (c:Code) (u:Tab) (mks:List Int) (t:Nat) (m:Mc):Mc :=
 { a:=if t=0 then stH c u t m else m.a,b:=if t=0 then m.b else stH c u t m
   c0:=(stX c u t m).2.2.2.2.2.2.1,c1:=(stX c u t m).2.2.2.2.2.2.2.1,c2:=(stX c u t m).2.2.2.2.2.2.2.2.1,st:=m.st+1
   h:=(stX c u t m).2.2.2.2.2.2.2.2.2,ms:=mkd mks (opOf u t (m.hd t).cl) (m.hd t).ln (stB u t m).2.2.2.2.1 (m.st+1) (stB u t m).2.2.2.2.2.2 }
def hasM (u:Tab) (t:Int) (m:Mc):Bool:=btw 0 t (u.length-1)&&decide ((m.hd t.toNat).cl<((u.getD t.toNat []).length:Int))
structure HInv (c:Code) (u:Tab) (t:Nat) (d:Hd) (h:List Call):Prop where
 cl0:0<=d.cl
 reg:dg d.r0/\dg d.r1/\dg d.r2/\dg d.r3
 idle:d.inn=false->d.ln=0
 busy:d.inn=true->0<=d.at_/\d.cl<((u.getD t []).length:Int)/\0<=d.ln/\d.ln<((c.getD (opOf u t d.cl).toNat []).length:Int) /\ ∃ x,h[d.at_.toNat]?=some x/\x.1=t/\x.2.2.1=opOf u t d.cl/\x.2.2.2.2.2=0
 uniq : ∀ (i:Nat) (x:Call),h[i]?=some x->x.1=t->x.2.2.2.2.2=0->d.inn=true/\d.at_=i
structure MInv (c:Code) (u:Tab) (m:Mc):Prop where
 a:HInv c u 0 m.a m.h
 b:HInv c u 1 m.b m.h
 cel:dg m.c0/\dg m.c1/\dg m.c2
 ms:m.ms.length=m.h.length
 st:(m.h.length:Int)<=m.st
theorem MInv.hd {c:Code} {u:Tab} {m:Mc} (h:MInv c u m) {t:Nat} (ht:t<2):HInv c u t (m.hd t) m.h:=by
 match t,ht with
 | 0,_=>exact h.a
 | 1,_=>exact h.b
theorem hinv0 (c:Code) (u:Tab) (t:Nat):HInv c u t hd0 [] :=
 ⟨Int.le_refl _,⟨by simp [dg,hd0],by simp [dg,hd0],by simp [dg,hd0],by simp [dg,hd0]⟩,fun _=>rfl,(fun h=>by cases h),(fun i x h=>by simp at h)⟩
theorem minv0 (c:Code) (u:Tab):MInv c u mc0 :=
 ⟨hinv0 c u 0,hinv0 c u 1,⟨by simp [dg,mc0],by simp [dg,mc0],by simp [dg,mc0]⟩,rfl,by simp [mc0]⟩
theorem HInv.open_eq {c:Code} {u:Tab} {t:Nat} {d:Hd} {h:List Call} (H:HInv c u t d h):open_ t h=d.inn:=by
 rw [Bool.eq_iff_iff]
 unfold open_
 rw [List.any_eq_true]
 constructor
 ·rintro ⟨x,hx,hp⟩
  obtain ⟨i,hi,rfl⟩:=List.mem_iff_getElem.1 hx
  simp only [zp4,decide_eq_true_eq] at hp
  exact (H.uniq i _ (zp1 hi) hp.1 hp.2).1
 ·intro hi
  obtain ⟨_,_,_,_,x,hx,h1,_,h2⟩:=H.busy hi
  exact ⟨x,List.mem_of_getElem? hx,by simp [h1,h2]⟩
theorem HInv.frame {c:Code} {u:Tab} {t:Nat} {d:Hd} {h h':List Call} (H:HInv c u t d h) (hk : ∀ (i:Nat) (x:Call),h[i]?=some x->x.1=t->h'[i]?=some x) (hn : ∀ (i:Nat) (x:Call),h'[i]?=some x->x.1=t->h[i]?=some x):HInv c u t d h' :=
 ⟨H.cl0,H.reg,H.idle,fun hi=>by
  obtain ⟨h1,h2,h3,h4,x,hx,hxt,h5⟩:=H.busy hi
  exact ⟨h1,h2,h3,h4,x,hk _ x hx hxt,hxt,h5⟩,fun i x hx hxt hxo=>H.uniq i x (hn i x hx hxt) hxt hxo⟩
structure Go1 (c:Code) (u:Tab) (t:Nat) (m:Mc) where
 w:List Int
 ls:List Ln4
 hu:u[t]?=some w
 hw:w[(m.hd t).cl.toNat]?=some (opOf u t (m.hd t).cl)
 op0:0<=opOf u t (m.hd t).cl
 opc:opOf u t (m.hd t).cl<c.length
 hc:c[(opOf u t (m.hd t).cl).toNat]?=some ls
 call:okCall ls=true
 ln0:0<=(m.hd t).ln
 lnl:(m.hd t).ln<ls.length
 hl:ls[(m.hd t).ln.toNat]?=some (stL c u t m)
 cl0:0<=(m.hd t).cl
 cll:(m.hd t).cl<w.length
theorem getD_get {α:Type} {l:List α} {i:Nat} {a d:α} (h:l[i]?=some a):l.getD i d=a:=by simp [List.getD,h]
theorem vCode_call {c:Code} (hv:vCode c=true) {i:Nat} {ls:List Ln4} (h:c[i]?=some ls):okCall ls=true:=by
 simp only [vCode,zp4,List.all_eq_true] at hv
 exact hv.2 ls (List.mem_of_getElem? h)
theorem go1 {c:Code} {u:Tab} {t:Nat} {m:Mc} (hv:vCode c=true) (hu:vUse c u=true) (hi:MInv c u m) (ht:hasM u t m=true):t<2/\Nonempty (Go1 c u t m):=by
 simp only [hasM,zp4,btw_true,decide_eq_true_eq,Int.toNat_natCast] at ht
 have hul:t<u.length:=by omega
 simp only [vUse,zp4,btw_true,List.all_eq_true] at hu
 have ht2:t<2:=by omega
 refine ⟨ht2,?_⟩
 have hw0:u[t]?=some u[t]:=zp1 hul
 have hgd:u.getD t []=u[t]:=getD_get hw0
 have H:=hi.hd ht2
 rw [hgd] at ht
 have hcl:(m.hd t).cl.toNat<u[t].length:=by have:=H.cl0;omega
 have hop:u[t][(m.hd t).cl.toNat]?=some u[t][(m.hd t).cl.toNat]:=zp1 hcl
 have hopE:opOf u t (m.hd t).cl=u[t][(m.hd t).cl.toNat]:=by unfold opOf;rw [hgd];exact getD_get hop
 have hword:=hu.2 u[t] (zp6 hul)
 simp only [okWord,zp4,List.all_eq_true,btw_true] at hword
 have hb:=hword.2 _ (zp6 hcl)
 rw [<-hopE] at hb hop
 have hcl2:(opOf u t (m.hd t).cl).toNat<c.length:=by omega
 have hc0:c[(opOf u t (m.hd t).cl).toNat]?=some c[(opOf u t (m.hd t).cl).toNat]:=zp1 hcl2
 have hcall:=vCode_call hv hc0
 have hls:c.getD (opOf u t (m.hd t).cl).toNat []=c[(opOf u t (m.hd t).cl).toNat]:=getD_get hc0
 have hln:0<=(m.hd t).ln/\(m.hd t).ln<(c[(opOf u t (m.hd t).cl).toNat]).length:=by
  cases hin:(m.hd t).inn with
  | true=>obtain ⟨_,_,h3,h4,_⟩:=H.busy hin;rw [hls] at h4;exact ⟨h3,h4⟩
  | false =>
    rw [H.idle hin]
    simp only [okCall,zp4,btw_true] at hcall
    omega
 have hl0:(c[(opOf u t (m.hd t).cl).toNat])[(m.hd t).ln.toNat]?=some (c[(opOf u t (m.hd t).cl).toNat])[(m.hd t).ln.toNat]:=zp1 (by omega)
 have hlE:stL c u t m=(c[(opOf u t (m.hd t).cl).toNat])[(m.hd t).ln.toNat]:=by unfold stL lnOf;rw [hls];exact getD_get hl0
 exact ⟨⟨u[t],c[(opOf u t (m.hd t).cl).toNat],hw0,hop,hb.1,by omega,hc0,hcall,hln.1,hln.2,by rw [hlE];exact hl0,H.cl0,by omega⟩⟩
theorem okCall_line {ls:List Ln4} (h:okCall ls=true) {i:Nat} {l:Ln4} (hl:ls[i]?=some l):okLine l ls.length=true:=by
 simp only [okCall,zp4,List.all_eq_true] at h
 exact h.2.1 l (List.mem_of_getElem? hl)
theorem okCall_next {ls:List Ln4} (h:okCall ls=true) {i:Nat} {l:Ln4} (hl:ls[i]?=some l) (h7:l.1≠7):i+1<ls.length:=by
 have hi:=(zp2.1 hl).1
 simp only [okCall,zp4,endsGive] at h
 have h2:=h.2.2
 rcases Nat.lt_or_ge (i+1) ls.length with hlt | hge
 ·exact hlt
 ·have:ls.length-1=i:=by omega
  rw [this,hl] at h2
  simp at h2
  exact absurd h2 h7
end Go.Am

namespace Go.Am
open Go
theorem pk_dg {z i v r:Int} (hv:dg v) (hr:dg r):dg (pk z i v r):=by unfold pk;cases decide (z=i) <;> assumption
theorem tmod10 {a b:Int} (ha:dg a) (hb:dg b):dg ((a+b).tmod 10):=by
 obtain ⟨a0,a1⟩:=ha;obtain ⟨b0,b1⟩:=hb
 rw [Int.tmod_eq_emod_of_nonneg (by omega)]
 constructor <;> omega
section
variable {l:Ln4} {m st cl ln r0 r1 r2 r3 at_ c0 c1 c2:Int} {h:List Call}
theorem xLn_ne7 (hok:okLine l m=true) (h7:l.1≠7) (d0:dg r0) (d1:dg r1) (d2:dg r2) (d3:dg r3) (e0:dg c0) (e1:dg c1) (e2:dg c2) :
  (xLn l st cl ln r0 r1 r2 r3 at_ c0 c1 c2 h).1=cl/\((xLn l st cl ln r0 r1 r2 r3 at_ c0 c1 c2 h).2.1=ln+1\/(0<=(xLn l st cl ln r0 r1 r2 r3 at_ c0 c1 c2 h).2.1/\(xLn l st cl ln r0 r1 r2 r3 at_ c0 c1 c2 h).2.1<m)) /\
   (dg (xLn l st cl ln r0 r1 r2 r3 at_ c0 c1 c2 h).2.2.1/\dg (xLn l st cl ln r0 r1 r2 r3 at_ c0 c1 c2 h).2.2.2.1/\dg (xLn l st cl ln r0 r1 r2 r3 at_ c0 c1 c2 h).2.2.2.2.1/\dg (xLn l st cl ln r0 r1 r2 r3 at_ c0 c1 c2 h).2.2.2.2.2.1) /\
   (dg (xLn l st cl ln r0 r1 r2 r3 at_ c0 c1 c2 h).2.2.2.2.2.2.1/\dg (xLn l st cl ln r0 r1 r2 r3 at_ c0 c1 c2 h).2.2.2.2.2.2.2.1/\dg (xLn l st cl ln r0 r1 r2 r3 at_ c0 c1 c2 h).2.2.2.2.2.2.2.2.1) /\
   (xLn l st cl ln r0 r1 r2 r3 at_ c0 c1 c2 h).2.2.2.2.2.2.2.2.2=h:=by
 have k4 : ∀ i,dg (rg4 r0 r1 r2 r3 i):=fun i=>rg4_dg d0 d1 d2 d3
 have k3 : ∀ i,dg (rg3 c0 c1 c2 i):=fun i=>rg3_dg e0 e1 e2
 have z0:dg 0:=by simp [dg]
 have z1:dg 1:=by simp [dg]
 rcases okLine_do hok with ⟨h1,_⟩ | ⟨h1,_⟩ | ⟨h1,_⟩ | ⟨h1,_,hb⟩ | ⟨h1,_⟩ | ⟨h1,_,hb0,hb1⟩ | ⟨h1,_⟩
 ·unfold xLn;rw [if_pos h1]
  exact ⟨rfl,.inl rfl,⟨pk_dg (k3 _) d0,pk_dg (k3 _) d1,pk_dg (k3 _) d2,pk_dg (k3 _) d3⟩,⟨e0,e1,e2⟩,rfl⟩
 ·unfold xLn;rw [if_neg (by omega),if_pos h1]
  exact ⟨rfl,.inl rfl,⟨d0,d1,d2,d3⟩,⟨pk_dg (k4 _) e0,pk_dg (k4 _) e1,pk_dg (k4 _) e2⟩,rfl⟩
 ·unfold xLn;rw [if_neg (by omega),if_neg (by omega),if_pos h1]
  split
  ·exact ⟨rfl,.inl rfl,⟨d0,d1,d2,z1⟩,⟨pk_dg (k4 _) e0,pk_dg (k4 _) e1,pk_dg (k4 _) e2⟩,rfl⟩
  ·exact ⟨rfl,.inl rfl,⟨d0,d1,d2,z0⟩,⟨e0,e1,e2⟩,rfl⟩
 ·unfold xLn;rw [if_neg (by omega),if_neg (by omega),if_neg (by omega),if_pos h1]
  exact ⟨rfl,.inl rfl,⟨pk_dg hb d0,pk_dg hb d1,pk_dg hb d2,pk_dg hb d3⟩,⟨e0,e1,e2⟩,rfl⟩
 ·unfold xLn;rw [if_neg (by omega),if_neg (by omega),if_neg (by omega),if_neg (by omega),if_pos h1]
  have k5:=fun i j=>tmod10 (k4 i) (k4 j)
  exact ⟨rfl,.inl rfl,⟨pk_dg (k5 _ _) d0,pk_dg (k5 _ _) d1,pk_dg (k5 _ _) d2,pk_dg (k5 _ _) d3⟩,⟨e0,e1,e2⟩,rfl⟩
 ·unfold xLn;rw [if_neg (by omega),if_neg (by omega),if_neg (by omega),if_neg (by omega),if_neg (by omega),if_pos h1]
  refine ⟨rfl,?_,⟨d0,d1,d2,d3⟩,⟨e0,e1,e2⟩,rfl⟩
  show (if rg4 r0 r1 r2 r3 l.2.1=0 then l.2.2.1 else ln+1)=ln+1\/_
  by_cases hq:rg4 r0 r1 r2 r3 l.2.1=0
  ·right;show 0<=(if rg4 r0 r1 r2 r3 l.2.1=0 then l.2.2.1 else ln+1)/\(if rg4 r0 r1 r2 r3 l.2.1=0 then l.2.2.1 else ln+1)<m
   rw [if_pos hq];exact ⟨hb0,hb1⟩
  ·left;rw [if_neg hq]
 ·exact absurd h1 h7
theorem xLn_7 (h7:l.1=7) {x:Call} (hx:h[at_.toNat]?=some x) :
  xLn l st cl ln r0 r1 r2 r3 at_ c0 c1 c2 h=(cl+1,0,r0,r1,r2,r3,c0,c1,c2,h.set at_.toNat (x.1,x.2.1,x.2.2.1,rg4 r0 r1 r2 r3 l.2.1,x.2.2.2.2.1,2*st)):=by
 unfold xLn
 rw [if_neg (by omega),if_neg (by omega),if_neg (by omega),if_neg (by omega),if_neg (by omega),if_neg (by omega)]
 simp only [hx]
end
theorem mkd_len (mks:List Int) (op ln at_ st:Int) (mk:List Int):(mkd mks op ln at_ st mk).length=mk.length:=by
 unfold mkd;cases hasMk mks op ln <;> simp
section
variable {c:Code} {u:Tab} {t:Nat} {m:Mc}
structure BInv (c:Code) (u:Tab) (t:Nat) (m:Mc):Prop where
 at0:0<=(stB u t m).2.2.2.2.1
 here : ∃ x:Call,(stB u t m).2.2.2.2.2.1[(stB u t m).2.2.2.2.1.toNat]?=some x/\x.1=t/\x.2.2.1=opOf u t (m.hd t).cl/\x.2.2.2.2.2=0
 old : ∀ (i:Nat) (x:Call),m.h[i]?=some x->(stB u t m).2.2.2.2.2.1[i]?=some x
 new : ∀ (i:Nat) (x:Call),(stB u t m).2.2.2.2.2.1[i]?=some x->x.1≠t->m.h[i]?=some x
 uniq : ∀ (i:Nat) (x:Call),(stB u t m).2.2.2.2.2.1[i]?=some x->x.1=t->x.2.2.2.2.2=0->(stB u t m).2.2.2.2.1=i
 len:(stB u t m).2.2.2.2.2.2.length=(stB u t m).2.2.2.2.2.1.length
 le:(stB u t m).2.2.2.2.2.1.length<=m.h.length+1
 reg:dg (stB u t m).1/\dg (stB u t m).2.1/\dg (stB u t m).2.2.1/\dg (stB u t m).2.2.2.1
theorem binv (hi:MInv c u m) (ht:t<2):BInv c u t m:=by
 have H:=hi.hd ht
 cases hin:(m.hd t).inn with
 | true =>
   have e:stB u t m=((m.hd t).r0,(m.hd t).r1,(m.hd t).r2,(m.hd t).r3,(m.hd t).at_,m.h,m.ms):=by unfold stB beg;rw [hin];rfl
   obtain ⟨h1,_,_,_,x,hx,hx1,hx2,hx3⟩:=H.busy hin
   refine ⟨by rw [e];exact h1,⟨x,by rw [e];exact hx,hx1,hx2,hx3⟩,fun i y hy=>by rw [e];exact hy,fun i y hy _=>by rw [e] at hy;exact hy,fun i y hy hy1 hy2 => ?_,by rw [e];exact hi.ms,by rw [e];exact Nat.le_succ _,by rw [e];exact H.reg⟩
   rw [e] at hy ⊢
   exact (H.uniq i y hy hy1 hy2).2
 | false =>
   have e:stB u t m=(0,1,0,0,(m.h.length:Int),m.h++[((t:Int),0,opOf u t (m.hd t).cl,0,2*m.st+1,0)],m.ms++[0]):=by unfold stB beg;rw [hin];rfl
   refine ⟨by rw [e];show (0:Int)<=m.h.length;omega,⟨_,by rw [e];show (m.h++[((t:Int),0,opOf u t (m.hd t).cl,0,2*m.st+1,0)])[((m.h.length:Int)).toNat]?=_;simp;rfl,rfl,rfl,rfl⟩,fun i y hy => ?_,fun i y hy hne => ?_,fun i y hy hy1 hy2 => ?_,?_,?_,?_⟩
   ·rw [e];show (m.h++_)[i]?=_
    rw [zp7 (zp2.1 hy).1];exact hy
   ·rw [e] at hy
    replace hy:(m.h++[((t:Int),0,opOf u t (m.hd t).cl,0,2*m.st+1,0)])[i]?=some y:=hy
    rcases Nat.lt_or_ge i m.h.length with hl | hl
    ·rw [zp7 hl] at hy;exact hy
    ·rw [zp8 hl] at hy
     have:i-m.h.length=0:=by have:=(zp2.1 hy).1;simp at this;omega
     rw [this] at hy;simp at hy;subst hy;exact absurd rfl hne
   ·rw [e] at hy ⊢
    replace hy:(m.h++[((t:Int),0,opOf u t (m.hd t).cl,0,2*m.st+1,0)])[i]?=some y:=hy
    show (m.h.length:Int)=i
    rcases Nat.lt_or_ge i m.h.length with hl | hl
    ·rw [zp7 hl] at hy
     have:=(H.uniq i y hy hy1 hy2).1;rw [hin] at this;cases this
    ·have:=(zp2.1 hy).1;simp at this;omega
   ·rw [e];simp [hi.ms]
   ·rw [e];simp
   ·rw [e];exact ⟨by simp [dg],by simp [dg],by simp [dg],by simp [dg]⟩
structure XInv (c:Code) (u:Tab) (t:Nat) (m:Mc):Prop where
 old : ∀ (i:Nat) (x:Call),m.h[i]?=some x->x.1≠t->(stX c u t m).2.2.2.2.2.2.2.2.2[i]?=some x
 new : ∀ (i:Nat) (x:Call),(stX c u t m).2.2.2.2.2.2.2.2.2[i]?=some x->x.1≠t->m.h[i]?=some x
 len:(stX c u t m).2.2.2.2.2.2.2.2.2.length=(stB u t m).2.2.2.2.2.1.length
 cel:dg (stX c u t m).2.2.2.2.2.2.1/\dg (stX c u t m).2.2.2.2.2.2.2.1/\dg (stX c u t m).2.2.2.2.2.2.2.2.1
 me:HInv c u t (stH c u t m) (stX c u t m).2.2.2.2.2.2.2.2.2
theorem xinv (hi:MInv c u m) (ht:t<2) (g:Go1 c u t m):XInv c u t m:=by
 have H:=hi.hd ht
 have B:=binv (u:=u) hi ht
 have hst0:0<=m.st:=Int.le_trans (by omega) hi.st
 have hok:=okCall_line g.call g.hl
 obtain ⟨x,hx,hx1,hx2,hx3⟩:=B.here
 have hgd:u.getD t []=g.w:=getD_get g.hu
 have hls:c.getD (opOf u t (m.hd t).cl).toNat []=g.ls:=getD_get g.hc
 obtain ⟨b0,b1,b2,b3⟩:=B.reg
 obtain ⟨e0,e1,e2⟩:=hi.cel
 by_cases h7:(stL c u t m).1=7
 ·have e:stX c u t m=_:=xLn_7 (st:=m.st+1) (cl:=(m.hd t).cl) (ln:=(m.hd t).ln) (r0:=(stB u t m).1) (r1:=(stB u t m).2.1) (r2:=(stB u t m).2.2.1) (r3:=(stB u t m).2.2.2.1) (c0:=m.c0) (c1:=m.c1) (c2:=m.c2) h7 hx
  have hat:(stB u t m).2.2.2.2.1.toNat<(stB u t m).2.2.2.2.2.1.length:=(zp2.1 hx).1
  refine ⟨fun i y hy hne => ?_,fun i y hy hne => ?_,by rw [e];simp,by rw [e];exact ⟨e0,e1,e2⟩,⟨?_,?_,fun _ => ?_,fun hin => ?_,fun i y hy hy1 hy2 => ?_⟩⟩
  ·have h1:=B.old i y hy
   rw [e];simp only
   rw [List.getElem?_set_ne];exact h1
   intro he;rw [he] at hx;rw [hx] at h1;cases h1;exact hne hx1
  ·rw [e] at hy;simp only at hy
   by_cases he:(stB u t m).2.2.2.2.1.toNat=i
   ·subst he;rw [List.getElem?_set_self hat] at hy;cases hy;exact absurd hx1 hne
   ·rw [List.getElem?_set_ne he] at hy;exact B.new i y hy hne
  ·show 0<=(stX c u t m).1;rw [e];show 0<=(m.hd t).cl+1;have:=H.cl0;omega
  ·show dg (stX c u t m).2.2.1/\_;unfold stH;rw [e];exact ⟨b0,b1,b2,b3⟩
  ·show (stX c u t m).2.1=0;rw [e]
  ·simp [stH,h7] at hin
  ·exfalso
   rw [e] at hy;simp only at hy
   by_cases he:(stB u t m).2.2.2.2.1.toNat=i
   ·subst he;rw [List.getElem?_set_self hat] at hy;cases hy;simp only at hy2;omega
   ·rw [List.getElem?_set_ne he] at hy
    have:=B.uniq i y hy hy1 hy2;omega
 ·obtain ⟨q1,q2,q3,q4,q5⟩:=xLn_ne7 (st:=m.st+1) (cl:=(m.hd t).cl) (ln:=(m.hd t).ln) (at_:=(stB u t m).2.2.2.2.1) (h:=(stB u t m).2.2.2.2.2.1) hok h7 b0 b1 b2 b3 e0 e1 e2
  have hX1:(stX c u t m).1=(m.hd t).cl:=q1
  have hX5:(stX c u t m).2.2.2.2.2.2.2.2.2=(stB u t m).2.2.2.2.2.1:=q5
  have hnx:=okCall_next g.call g.hl h7
  refine ⟨fun i y hy _=>by rw [hX5];exact B.old i y hy,fun i y hy hne=>by rw [hX5] at hy;exact B.new i y hy hne,by rw [hX5],q4,⟨?_,q3,fun hin => ?_,fun _ => ?_,fun i y hy hy1 hy2 => ?_⟩⟩
  ·show 0<=(stX c u t m).1;rw [hX1];exact H.cl0
  ·simp [stH,h7] at hin
  ·refine ⟨B.at0,?_,?_,?_,x,by rw [hX5];exact hx,hx1,?_,hx3⟩
   ·show (stX c u t m).1<_;rw [hX1,hgd];exact g.cll
   ·show 0<=(stX c u t m).2.1
    rcases q2 with h | h
    ·have h':(stX c u t m).2.1=(m.hd t).ln+1:=h
     rw [h'];have:=g.ln0;omega
    ·exact h.1
   ·show (stX c u t m).2.1<((c.getD (opOf u t (stX c u t m).1).toNat []).length:Int)
    rw [hX1,hls]
    rcases q2 with h | h
    ·have h':(stX c u t m).2.1=(m.hd t).ln+1:=h
     rw [h'];have:=g.ln0;omega
    ·exact h.2
   ·show x.2.2.1=opOf u t (stX c u t m).1;rw [hX1];exact hx2
  ·rw [hX5] at hy
   exact ⟨by simp [stH,h7],B.uniq i y hy hy1 hy2⟩
theorem minv_step (mks:List Int) (hi:MInv c u m) (ht:t<2) (g:Go1 c u t m):MInv c u (stepM c u mks t m):=by
 have X:=xinv hi ht g
 have B:=binv (u:=u) hi ht
 have hms:(stepM c u mks t m).ms.length=(stepM c u mks t m).h.length:=by
  show (mkd _ _ _ _ _ _).length=_
  rw [mkd_len,B.len];exact X.len.symm
 have hst:((stepM c u mks t m).h.length:Int)<=(stepM c u mks t m).st:=by
  show (((stX c u t m).2.2.2.2.2.2.2.2.2).length:Int)<=m.st+1
  rw [X.len];have:=B.le;have:=hi.st;omega
 match t,ht,X,hms,hst with
 | 0,_,X,hms,hst=>exact ⟨X.me,hi.b.frame (fun i x h h1=>X.old i x h (by rw [h1];decide)) (fun i x h h1=>X.new i x h (by rw [h1];decide)),X.cel,hms,hst⟩
 | 1,_,X,hms,hst=>exact ⟨hi.a.frame (fun i x h h1=>X.old i x h (by rw [h1];decide)) (fun i x h h1=>X.new i x h (by rw [h1];decide)),X.me,X.cel,hms,hst⟩
end
end Go.Am

namespace Go.Am
open Go
section
variable {c:Code} {u:Tab} {m:Mc}
theorem Go1.small {t:Nat} (g:Go1 c u t m) (hu:vUse c u=true):(m.hd t).cl<=1000/\(m.hd t).ln<=1000:=by
 have h1:=g.lnl;have h2:=g.cll
 have h3:=g.call
 simp only [okCall,zp4,btw_true] at h3
 simp only [vUse,zp4,List.all_eq_true] at hu
 have h4:=hu.2 g.w (List.mem_of_getElem? g.hu)
 simp only [okWord,zp4,decide_eq_true_eq] at h4
 omega
def MkOk (c:Code) (mks:List Int):Prop:=mks=[]\/mks.length=c.length
theorem MkOk.at {mks:List Int} (h:MkOk c mks) {t:Nat} (g:Go1 c u t m):mks=[]\/(opOf u t (m.hd t).cl).toNat<mks.length:=by
 rcases h with h | h
 ·exact .inl h
 ·right;rw [h];have:=g.op0;have:=g.opc;omega
theorem Z84_m (mks:List Int) (hmk:MkOk c mks) (hv:vCode c=true) (hu:vUse c u=true) (hi:MInv c u m) (hst:m.st<=100) {t:Int} (ht:hasM u t m=true) :
  Z84 Ar.std t (eInts mks) (eCode c) (eTab u) m.a.cl m.a.ln m.a.r0 m.a.r1 m.a.r2 m.a.r3 m.a.at_ m.b.cl m.b.ln m.b.r0 m.b.r1 m.b.r2 m.b.r3 m.b.at_ m.c0 m.c1 m.c2 m.st (eCalls m.h) (eInts m.ms)=some (eCode c,eTab u,(stepM c u mks t.toNat m).a.cl,(stepM c u mks t.toNat m).a.ln,(stepM c u mks t.toNat m).a.r0,(stepM c u mks t.toNat m).a.r1,(stepM c u mks t.toNat m).a.r2,(stepM c u mks t.toNat m).a.r3,(stepM c u mks t.toNat m).a.at_,(stepM c u mks t.toNat m).b.cl,(stepM c u mks t.toNat m).b.ln,(stepM c u mks t.toNat m).b.r0,(stepM c u mks t.toNat m).b.r1,(stepM c u mks t.toNat m).b.r2,(stepM c u mks t.toNat m).b.r3,(stepM c u mks t.toNat m).b.at_,(stepM c u mks t.toNat m).c0,(stepM c u mks t.toNat m).c1,(stepM c u mks t.toNat m).c2,(stepM c u mks t.toNat m).st,eCalls (stepM c u mks t.toNat m).h,eInts (stepM c u mks t.toNat m).ms):=by
 have h0:0<=t:=by simp only [hasM,zp4,btw_true] at ht;omega
 obtain ⟨T,rfl⟩:=zp9 h0
 obtain ⟨h2,⟨g⟩⟩:=go1 hv hu hi ht
 obtain ⟨s1,s2⟩:=g.small hu
 have H:=hi.hd h2
 have hs:=hi.st
 have hmk':=hmk.at g
 rw [Int.toNat_natCast]
 have hat:(m.hd T).inn=true->0<=(m.hd T).at_/\(m.hd T).at_<m.h.length:=by
  intro hin
  obtain ⟨q1,_,_,_,x,hx,_⟩:=H.busy hin
  have:=(zp2.1 hx).1
  exact ⟨q1,by omega⟩
 match T,h2,g,s1,s2,H,hmk',hat with
 | 0,_,g,s1,s2,H,hmk',hat =>
   exact Z84_0 c u mks m.a.cl m.a.ln m.a.r0 m.a.r1 m.a.r2 m.a.r3 m.a.at_ m.b.cl m.b.ln m.b.r0 m.b.r1 m.b.r2 m.b.r3 m.b.at_ m.c0 m.c1 m.c2 m.st m.h m.ms m.a.inn (opOf u 0 m.a.cl) g.w g.ls (stL c u 0 m)
    g.hu ⟨g.cl0,s1⟩ g.hw g.op0 g.hc ⟨g.ln0,s2⟩ g.hl (okCall_line g.call g.hl) H.open_eq H.idle (by omega) hi.ms hat (by omega) hmk' H.reg.1 H.reg.2.1 H.reg.2.2.1 H.reg.2.2.2
 | 1,_,g,s1,s2,H,hmk',hat =>
   exact Z84_1 c u mks m.b.cl m.b.ln m.b.r0 m.b.r1 m.b.r2 m.b.r3 m.b.at_ m.a.cl m.a.ln m.a.r0 m.a.r1 m.a.r2 m.a.r3 m.a.at_ m.c0 m.c1 m.c2 m.st m.h m.ms m.b.inn (opOf u 1 m.b.cl) g.w g.ls (stL c u 1 m)
    g.hu ⟨g.cl0,s1⟩ g.hw g.op0 g.hc ⟨g.ln0,s2⟩ g.hl (okCall_line g.call g.hl) H.open_eq H.idle (by omega) hi.ms hat (by omega) hmk' H.reg.1 H.reg.2.1 H.reg.2.2.1 H.reg.2.2.2
theorem Z94_m (x2:List D) (hul:u.length<=2) (t:Int):Z94 Ar.std t x2 (eTab u) m.a.cl m.a.ln m.a.r0 m.a.r1 m.a.r2 m.a.r3 m.a.at_ m.b.cl m.b.ln m.b.r0 m.b.r1 m.b.r2 m.b.r3 m.b.at_ m.c0 m.c1 m.c2 m.st (eCalls m.h) (eInts m.ms)=some (hasM u t m):=by
 have hw:IntKind.i64.wrap ((u.length:Int)-1)=u.length-1:=wrapL (by show u.length<9223372036854775808;omega)
 unfold Z94
 refine bt (v:=hasM u t m) ?_ rfl
 simp only [Z82_eq,len_eTab,std_wrp,std_zsub,hw,bsome]
 cases hb:btw 0 t (u.length-1) with
 | false=>simp [hasM,hb]
 | true =>
   have hb':=(btw_true _ _ _).1 hb
   rw [cond_true]
   have hlt:t.toNat<u.length:=by omega
   have hg:u[t.toNat]?=some u[t.toNat]:=zp1 hlt
   rcases (by omega:t=0\/t=1) with rfl | rfl
   ·refine cnT rfl (bt (gt_eTabI (by decide) hg) ?_)
    simp only [hasM,hb,Bool.true_and,std_zlt,len_enc,getD_get hg];rfl
   ·refine cnF rfl (cnT rfl (bt (gt_eTabI (by decide) hg) ?_))
    simp only [hasM,hb,Bool.true_and,std_zlt,len_enc,getD_get hg];rfl
def RHs (u:Tab) (m:Mc) (hs:List H8):Prop:=hs.length=u.length /\ ∀ (t:Nat) (x:H8),hs[t]?=some x ->
 x.1=(m.hd t).cl+(bif (m.hd t).inn then 1 else 0)/\(m.hd t).ln=(bif (m.hd t).inn then x.2.1 else 0)/\x.2.2=((m.hd t).inn,(m.hd t).at_,(m.hd t).r0,(m.hd t).r1,(m.hd t).r2,(m.hd t).r3)
theorem rhs0 (n:Nat) (u:Tab) (h:n=u.length):RHs u mc0 (List.replicate n (0,0,false,0,0,0,0,0)):=by
 refine ⟨by simp [h],fun t x hx => ?_⟩
 have:x=(0,0,false,0,0,0,0,0):=by
  have:=List.mem_of_getElem? hx;exact (List.mem_replicate.1 this).2
 subst this
 have e:mc0.hd t=hd0:=by unfold Mc.hd;split <;> rfl
 rw [e];exact ⟨rfl,rfl,rfl⟩
theorem Z104_m (mks:List Int) (hmk:MkOk c mks) (hv:vCode c=true) (hu:vUse c u=true) (hi:MInv c u m) (hst:m.st<=100) {hs:List H8} (hr:RHs u m hs) {t:Int} (ht:hasM u t m=true) :
  ∃ hs',Z104 Ar.std t (eCode c) (eTab u) (eInts mks) m.st m.c0 m.c1 m.c2 (eHs hs) (eCalls m.h) (eInts (m.ms.map (· - 1))) =
    some (eCode c,eTab u,eInts mks,(stepM c u mks t.toNat m).st,(stepM c u mks t.toNat m).c0,(stepM c u mks t.toNat m).c1,(stepM c u mks t.toNat m).c2,eHs hs',eCalls (stepM c u mks t.toNat m).h,eInts ((stepM c u mks t.toNat m).ms.map (· - 1))) /\
    RHs u (stepM c u mks t.toNat m) hs':=by
 have h0:0<=t:=by simp only [hasM,zp4,btw_true] at ht;omega
 obtain ⟨T,rfl⟩:=zp9 h0
 obtain ⟨h2,⟨g⟩⟩:=go1 hv hu hi ht
 obtain ⟨s1,s2⟩:=g.small hu
 have H:=hi.hd h2
 have hs0:=hi.st
 rw [Int.toNat_natCast]
 have hT:T<hs.length:=by rw [hr.1];exact (zp2.1 g.hu).1
 have hg:hs[T]?=some hs[T]:=zp1 hT
 obtain ⟨q1,q2,q3⟩:=hr.2 T _ hg
 generalize hs[T]=x at hg q1 q2 q3
 obtain ⟨x1,y2,y3,y4,y5,y6,y7,y8⟩:=x
 simp only [Prod.mk.injEq] at q1 q2 q3
 obtain ⟨q3,q4,q5,q6,q7,q8⟩:=q3
 subst q3 q4 q5 q6 q7 q8
 refine ⟨hs.set T (newH (stL c u T m) ((m.hd T).cl+1) (m.hd T).ln (stB u T m).2.2.2.2.1 (stX c u T m)),
  Z104_eq c u mks T hs x1 y2 (m.hd T).at_ (m.hd T).r0 (m.hd T).r1 (m.hd T).r2 (m.hd T).r3 (m.hd T).cl (m.hd T).ln m.c0 m.c1 m.c2 m.st m.h m.ms (m.hd T).inn (opOf u T (m.hd T).cl) g.w g.ls (stL c u T m)
   hg q1 q2 g.hu ⟨g.cl0,s1⟩ g.hw g.op0 g.hc ⟨g.ln0,s2⟩ g.hl (okCall_line g.call g.hl) (by omega) hi.ms (fun hin=>by
    obtain ⟨z1,_,_,_,x,hx,_,hx2,_⟩:=H.busy hin;exact ⟨z1,x,hx,hx2⟩) (by omega) (hmk.at g) H.reg.1 H.reg.2.1 H.reg.2.2.1 H.reg.2.2.2,⟨by simp [hr.1],fun t' x hx => ?_⟩⟩
 by_cases he:T=t'
 ·subst he
  rw [List.getElem?_set_self hT] at hx
  cases hx
  have hhd:(stepM c u mks T m).hd T=stH c u T m:=by
   unfold Mc.hd stepM;simp only;split <;> rfl
  rw [hhd]
  by_cases h7:(stL c u T m).1=7
  ·obtain ⟨y,hy,_⟩:=(binv (u:=u) hi h2).here
   have e:stX c u T m=_:=xLn_7 (st:=m.st+1) (cl:=(m.hd T).cl) (ln:=(m.hd T).ln) (r0:=(stB u T m).1) (r1:=(stB u T m).2.1) (r2:=(stB u T m).2.2.1) (r3:=(stB u T m).2.2.2.1) (c0:=m.c0) (c1:=m.c1) (c2:=m.c2) h7 hy
   refine ⟨?_,?_,?_⟩
   ·show (m.hd T).cl+1=(stX c u T m).1+(bif !decide ((stL c u T m).1=7) then 1 else 0)
    rw [e];simp [h7]
   ·show (stX c u T m).2.1=(bif !decide ((stL c u T m).1=7) then _ else 0)
    rw [e];simp [h7]
   ·rfl
  ·have B:=binv (u:=u) hi h2
   obtain ⟨b0,b1,b2,b3⟩:=B.reg
   obtain ⟨e0,e1,e2⟩:=hi.cel
   obtain ⟨z1,_⟩:=xLn_ne7 (st:=m.st+1) (cl:=(m.hd T).cl) (ln:=(m.hd T).ln) (at_:=(stB u T m).2.2.2.2.1) (h:=(stB u T m).2.2.2.2.2.1) (okCall_line g.call g.hl) h7 b0 b1 b2 b3 e0 e1 e2
   have z1':(stX c u T m).1=(m.hd T).cl:=z1
   refine ⟨?_,?_,rfl⟩
   ·show (m.hd T).cl+1=(stX c u T m).1+(bif !decide ((stL c u T m).1=7) then 1 else 0)
    rw [z1'];simp [h7]
   ·show (stX c u T m).2.1=(bif !decide ((stL c u T m).1=7) then (bif decide ((stL c u T m).1=7) then (m.hd T).ln+1 else (stX c u T m).2.1) else 0)
    simp [h7]
 ·rw [List.getElem?_set_ne he] at hx
  have hhd:(stepM c u mks T m).hd t'=m.hd t':=by
   have ht':t'<2:=by
    have:=(zp2.1 hx).1;rw [hr.1] at this
    simp only [vUse,zp4,btw_true] at hu;omega
   match T,t',h2,ht',he with
   | 0,1,_,_,_=>rfl
   | 1,0,_,_,_=>rfl
   | 0,0,_,_,he=>exact absurd rfl he
   | 1,1,_,_,he=>exact absurd rfl he
  rw [hhd]
  exact hr.2 t' x hx
end
end Go.Am

set_option linter.unusedSectionVars false
namespace Go.Am
open Go
def runS (c:Code) (u:Tab) (mks:List Int):List Int->Mc->Mc×Bool
 | [],m=>(m,true)
 | t::r,m=>bif hasM u t m then runS c u mks r (stepM c u mks t.toNat m) else (m,false)
def doneS (c:Code) (u:Tab) (sch mks:List Int):Mc×Bool:=bif decide (12<sch.length) then (mc0,false) else runS c u mks sch mc0
theorem step_st (c:Code) (u:Tab) (mks:List Int) (t:Nat) (m:Mc):(stepM c u mks t m).st=m.st+1:=rfl
section
variable {c:Code} {u:Tab} (mks:List Int) (hmk:MkOk c mks) (hv:vCode c=true) (hu:vUse c u=true)
include hmk hv hu
theorem ulen:u.length<=2:=by simp only [vUse,zp4,btw_true] at hu;omega
theorem minv_next {m:Mc} (hi:MInv c u m) {t:Int} (ht:hasM u t m=true):MInv c u (stepM c u mks t.toNat m):=by
 have h0:0<=t:=by simp only [hasM,zp4,btw_true] at ht;omega
 obtain ⟨T,rfl⟩:=zp9 h0
 obtain ⟨h2,⟨g⟩⟩:=go1 hv hu hi ht
 rw [Int.toNat_natCast];exact minv_step mks hi h2 g
theorem Z69_eq (sch:List Int) (hl:sch.length<Lg) :
  Z69 Ar.std (eCode c) (eTab u) (eInts sch) (eInts mks)=some (eCode c,eTab u,(doneS c u sch mks).1.a.cl,(doneS c u sch mks).1.a.ln,(doneS c u sch mks).1.a.r0,(doneS c u sch mks).1.a.r1,(doneS c u sch mks).1.a.r2,(doneS c u sch mks).1.a.r3,(doneS c u sch mks).1.a.at_,(doneS c u sch mks).1.b.cl,(doneS c u sch mks).1.b.ln,(doneS c u sch mks).1.b.r0,(doneS c u sch mks).1.b.r1,(doneS c u sch mks).1.b.r2,(doneS c u sch mks).1.b.r3,(doneS c u sch mks).1.b.at_,(doneS c u sch mks).1.c0,(doneS c u sch mks).1.c1,(doneS c u sch mks).1.c2,(doneS c u sch mks).1.st,eCalls (doneS c u sch mks).1.h,eInts (doneS c u sch mks).1.ms,(doneS c u sch mks).2):=by
 have hul:=ulen mks hmk hv hu
 unfold Z69 doneS
 refine bt (v:=(eCode c,eTab u)) rfl ?_
 dsimp only
 by_cases h12:12<sch.length
 ·have h12':decide (12<sch.length)=true:=decide_eq_true h12
  rw [h12']
  exact cnT (by simp;omega) rfl
 ·have h12':decide (12<sch.length)=false:=decide_eq_false h12
  rw [h12',cond_false]
  refine cnF (by simp;omega) ?_
  have e:=iter_list (step:=Z69L0 Ar.std (eInts sch) (eInts mks)) sch (fun (m:Mc) (i:Nat)=>((i:Int),eCode c,eTab u,m.a.cl,m.a.ln,m.a.r0,m.a.r1,m.a.r2,m.a.r3,m.a.at_,m.b.cl,m.b.ln,m.b.r0,m.b.r1,m.b.r2,m.b.r3,m.b.at_,m.c0,m.c1,m.c2,m.st,eCalls m.h,eInts m.ms))
   (fun m t=>bif hasM u t m then .inl (stepM c u mks t.toNat m) else .inr (.inr (eCode c,eTab u,m.a.cl,m.a.ln,m.a.r0,m.a.r1,m.a.r2,m.a.r3,m.a.at_,m.b.cl,m.b.ln,m.b.r0,m.b.r1,m.b.r2,m.b.r3,m.b.at_,m.c0,m.c1,m.c2,m.st,eCalls m.h,eInts m.ms,eCode c,eTab u,m.a.cl,m.a.ln,m.a.r0,m.a.r1,m.a.r2,m.a.r3,m.a.at_,m.b.cl,m.b.ln,m.b.r0,m.b.r1,m.b.r2,m.b.r3,m.b.at_,m.c0,m.c1,m.c2,m.st,eCalls m.h,eInts m.ms)))
   (fun m => .inl (eCode c,eTab u,m.a.cl,m.a.ln,m.a.r0,m.a.r1,m.a.r2,m.a.r3,m.a.at_,m.b.cl,m.b.ln,m.b.r0,m.b.r1,m.b.r2,m.b.r3,m.b.at_,m.c0,m.c1,m.c2,m.st,eCalls m.h,eInts m.ms)) (fun i m=>MInv c u m/\m.st=i)
   (fun i t m hn hI=>by
    have hi:=(zp2.1 hn).1
    obtain ⟨hI1,hI2⟩:=hI
    have h1:Ar.std.zlt (i:Int) (Ar.std.len (eInts sch))=true:=by simp;omega
    cases ht:hasM u t m with
    | true =>
      refine .inl ⟨_,rfl,⟨minv_next mks hmk hv hu hI1 ht,by rw [step_st,hI2];rfl⟩,?_⟩
      unfold Z69L0
      refine cnT h1 (bt (gt_enc hn) (bt (Z94_m _ hul t) (cnT ht (bt (Z84_m mks hmk hv hu hI1 (by omega) ht) ?_))))
      simp only [std_wrp,std_zadd,wrap1 hi hl]
    | false =>
      refine .inr ⟨_,rfl,?_⟩
      unfold Z69L0
      exact cnT h1 (bt (gt_enc hn) (bt (Z94_m _ hul t) (cnF ht rfl))))
   (fun m _=>by
    unfold Z69L0
    exact cnF (by simp) rfl) mc0 ⟨minv0 c u,rfl⟩
  have e0:iter (Z69L0 Ar.std (eInts sch) (eInts mks)) (0,eCode c,eTab u,0,0,0,0,0,0,0,0,0,0,0,0,0,0,0,0,0,0,[],[])=_:=e
  refine bt e0 ?_
  have key : ∀ (l:List Int) (m:Mc),foldE (fun (m:Mc) t=>bif hasM u t m then Sum.inl (stepM c u mks t.toNat m) else Sum.inr (Sum.inr (eCode c,eTab u,m.a.cl,m.a.ln,m.a.r0,m.a.r1,m.a.r2,m.a.r3,m.a.at_,m.b.cl,m.b.ln,m.b.r0,m.b.r1,m.b.r2,m.b.r3,m.b.at_,m.c0,m.c1,m.c2,m.st,eCalls m.h,eInts m.ms,eCode c,eTab u,m.a.cl,m.a.ln,m.a.r0,m.a.r1,m.a.r2,m.a.r3,m.a.at_,m.b.cl,m.b.ln,m.b.r0,m.b.r1,m.b.r2,m.b.r3,m.b.at_,m.c0,m.c1,m.c2,m.st,eCalls m.h,eInts m.ms)))
    (fun m=>Sum.inl (eCode c,eTab u,m.a.cl,m.a.ln,m.a.r0,m.a.r1,m.a.r2,m.a.r3,m.a.at_,m.b.cl,m.b.ln,m.b.r0,m.b.r1,m.b.r2,m.b.r3,m.b.at_,m.c0,m.c1,m.c2,m.st,eCalls m.h,eInts m.ms)) l m=(bif (runS c u mks l m).2 then Sum.inl (eCode c,eTab u,(runS c u mks l m).1.a.cl,(runS c u mks l m).1.a.ln,(runS c u mks l m).1.a.r0,(runS c u mks l m).1.a.r1,(runS c u mks l m).1.a.r2,(runS c u mks l m).1.a.r3,(runS c u mks l m).1.a.at_,(runS c u mks l m).1.b.cl,(runS c u mks l m).1.b.ln,(runS c u mks l m).1.b.r0,(runS c u mks l m).1.b.r1,(runS c u mks l m).1.b.r2,(runS c u mks l m).1.b.r3,(runS c u mks l m).1.b.at_,(runS c u mks l m).1.c0,(runS c u mks l m).1.c1,(runS c u mks l m).1.c2,(runS c u mks l m).1.st,eCalls (runS c u mks l m).1.h,eInts (runS c u mks l m).1.ms) else Sum.inr (eCode c,eTab u,(runS c u mks l m).1.a.cl,(runS c u mks l m).1.a.ln,(runS c u mks l m).1.a.r0,(runS c u mks l m).1.a.r1,(runS c u mks l m).1.a.r2,(runS c u mks l m).1.a.r3,(runS c u mks l m).1.a.at_,(runS c u mks l m).1.b.cl,(runS c u mks l m).1.b.ln,(runS c u mks l m).1.b.r0,(runS c u mks l m).1.b.r1,(runS c u mks l m).1.b.r2,(runS c u mks l m).1.b.r3,(runS c u mks l m).1.b.at_,(runS c u mks l m).1.c0,(runS c u mks l m).1.c1,(runS c u mks l m).1.c2,(runS c u mks l m).1.st,eCalls (runS c u mks l m).1.h,eInts (runS c u mks l m).1.ms,eCode c,eTab u,(runS c u mks l m).1.a.cl,(runS c u mks l m).1.a.ln,(runS c u mks l m).1.a.r0,(runS c u mks l m).1.a.r1,(runS c u mks l m).1.a.r2,(runS c u mks l m).1.a.r3,(runS c u mks l m).1.a.at_,(runS c u mks l m).1.b.cl,(runS c u mks l m).1.b.ln,(runS c u mks l m).1.b.r0,(runS c u mks l m).1.b.r1,(runS c u mks l m).1.b.r2,(runS c u mks l m).1.b.r3,(runS c u mks l m).1.b.at_,(runS c u mks l m).1.c0,(runS c u mks l m).1.c1,(runS c u mks l m).1.c2,(runS c u mks l m).1.st,eCalls (runS c u mks l m).1.h,eInts (runS c u mks l m).1.ms)):=by
   intro l
   induction l with
   | nil=>intro m;rfl
   | cons t r ih =>
     intro m
     rw [foldE_cons]
     unfold runS
     cases ht:hasM u t m with
     | true=>exact ih _
     | false=>rfl
  rw [key]
  cases (runS c u mks sch mc0).2 <;> rfl
end
end Go.Am

namespace Go.Am
open Go
def longT (t:Tab):Bool:=t.any fun r=>decide (20<(r.length:Int))
def largeS (l:List Spec):Bool:=(l.any fun s=>decide (20<(s.2.2.1.length:Int))||decide (20<(s.2.2.2.length:Int))||longT s.2.2.1||longT s.2.2.2)||decide (5<(l.length:Int))
theorem Z59L0_eq (t:Tab) (ht:TabOk t):iter (Z59L0 Ar.std (eTab t)) 0=some (bif longT t then .inr () else .inl ()):=by
 refine iter_any t _ _ _ (fun i r hr hi => ?_) ?_
 ·simp [Z59L0,gt_eTab hr,hi,wrap1 hi ht.1]
 ·simp [Z59L0]
theorem Z59L1_eq (t:Tab) (ht:TabOk t):iter (Z59L1 Ar.std (eTab t)) 0=some (bif longT t then .inr () else .inl ()):=Z59L0_eq t ht
theorem Z59_eq (l:List Spec) (hl:SpecsOk l):Z59 Ar.std (eSpecs l)=some (largeS l):=by
 have e:iter (Z59L2 Ar.std (eSpecs l)) 0=some (bif (l.any fun s=>decide (20<(s.2.2.1.length:Int))||decide (20<(s.2.2.2.length:Int))||longT s.2.2.1||longT s.2.2.2) then .inr () else .inl ()):=by
  refine iter_any l _ _ _ (fun i s hs hi => ?_) ?_
  ·obtain ⟨h1,h2⟩:=hl.2 s (List.mem_of_getElem? hs)
   simp only [Z59L2,gt_eSpecs hs,bsome,Z59L0_eq _ h1,Z59L1_eq _ h2,std_zlt,len_eSpecs,len_eTab,ltC hi,cond_true,std_wrp,std_zadd,wrap1 hi hl.1]
   cases decide (20<(s.2.2.1.length:Int)) <;> cases decide (20<(s.2.2.2.length:Int)) <;> cases longT s.2.2.1 <;> cases longT s.2.2.2 <;> rfl
  ·simp [Z59L2]
 unfold Z59
 rw [e]
 simp only [largeS,bsome,std_zlt,len_eSpecs]
 cases l.any _ <;> rfl
def largeX (s:Spec) (c:Code) (u:Tab):Bool :=
 (c.any fun l=>decide (30<(l.length:Int)))||((u.any fun l=>decide (20<(l.length:Int)))||(largeS [s]||(decide (10<(c.length:Int))||decide (10<(u.length:Int)))))
theorem Z18_eq (s:Spec) (hs:TabOk s.2.2.1/\TabOk s.2.2.2) (c:Code) (hc:CodeOk c) (u:Tab) (hu:TabOk u):Z18 Ar.std s.1 s.2.1 (eTab s.2.2.1) (eTab s.2.2.2) (eCode c) (eTab u)=some (largeX s c u):=by
 have e0:iter (Z18L0 Ar.std (eCode c)) 0=some (bif (c.any fun l=>decide (30<(l.length:Int))) then .inr () else .inl ()):=by
  refine iter_any c _ _ _ (fun i r hr hi => ?_) ?_
  ·simp [Z18L0,gt_eCode hr,hi,wrap1 hi hc.1]
  ·simp [Z18L0]
 have e1:iter (Z18L1 Ar.std (eTab u)) 0=some (bif (u.any fun l=>decide (20<(l.length:Int))) then .inr () else .inl ()):=by
  refine iter_any u _ _ _ (fun i r hr hi => ?_) ?_
  ·simp [Z18L1,gt_eTab hr,hi,wrap1 hi hu.1]
  ·simp [Z18L1]
 have e2:Z59 Ar.std [.agg [.int .i64 s.1,.int .i64 s.2.1,.list 1 (eTab s.2.2.1),.list 1 (eTab s.2.2.2)]]=some (largeS [s]) :=
  Z59_eq [s] ⟨by show 1<9223372036854775808;decide,fun x hx=>by rw [List.mem_singleton.1 hx];exact hs⟩
 unfold Z18 largeX
 rw [e0,bsome]
 cases c.any fun l=>decide (30<(l.length:Int)) with
 | true=>rfl
 | false =>
   simp only [cond_false,Sum.elim_inl]
   rw [e1,bsome]
   cases u.any fun l=>decide (20<(l.length:Int)) with
   | true=>rfl
   | false =>
     simp only [cond_false,Sum.elim_inl,e2,bsome,std_zlt,len_eCode,len_eTab]
     cases largeS [s] <;> cases decide (10<(c.length:Int)) <;> rfl
theorem codeE_ok {c:Code} {u:Tab} (h:codeE c u=0):vCode c=true/\vUse c u=true:=by
 unfold codeE at h
 cases h1:vCode c <;> rw [h1] at h
 ·cases h
 ·cases h2:vUse c u <;> rw [h2] at h
  ·cases h
  ·exact ⟨rfl,rfl⟩
def runOf {α:Type} (c:Code) (u:Tab) (sch:List Int) (f:Mc->α) (no:α):α×Int :=
 bif decide (codeE c u=0) then (bif (doneS c u sch []).2 then (f (doneS c u sch []).1,0) else (no,2)) else (no,codeE c u)
section
variable {c:Code} (hc:CodeOk c) {u:Tab} (hu:TabOk u) {sch:List Int} (hl:sch.length<Lg)
include hc hu hl
theorem Z15_eq:Z15 Ar.std (eCode c) (eTab u) (eInts sch)=some (eCalls (runOf c u sch Mc.h []).1,(runOf c u sch Mc.h []).2):=by
 have e:Z51 Ar.std (eCode c) (eTab u) (eInts sch) []=some (bif decide (codeE c u=0) then (bif (doneS c u sch []).2 then .inl (eCalls (doneS c u sch []).1.h) else .inr 2) else .inr (codeE c u)):=by
  unfold Z51
  refine bt (Z40_eq c hc u hu) ?_
  by_cases h:codeE c u=0
  ·obtain ⟨h1,h2⟩:=codeE_ok h
   rw [decide_eq_true h,cond_true]
   refine cnT (decide_eq_true h) (bt (Z69_eq [] (.inl rfl) h1 h2 sch hl) ?_)
   dsimp only
   cases (doneS c u sch []).2 <;> rfl
  ·rw [decide_eq_false h,cond_false]
   exact cnF (decide_eq_false h) rfl
 unfold Z15
 refine bt (v:=((runOf c u sch Mc.h []).2,eCalls (runOf c u sch Mc.h []).1)) (bt e ?_) rfl
 unfold runOf
 cases decide (codeE c u=0) <;> cases (doneS c u sch []).2 <;> rfl
theorem Z39_eq (l:List D) (h:l.length<4294967296):Z39 Ar.std l=some l:=by
 have e:ap Ar.std [] l=some l:=by simpa using ap_std (l:=[]) (m:=l) (by simpa using (by omega:(l.length:Int)<4294967296))
 unfold Z39
 cases l with
 | nil=>exact cnF rfl (by rw [e];exact both_self _)
 | cons x r=>exact cnT (by simp <;> omega) (by rw [e];rfl)
def leftM (u:Tab) (m:Mc):List Int:=((List.range' 0 u.length).filter fun t:Nat=>hasM u t m).map fun t:Nat=>(t:Int)
omit hc hu hl in
theorem left_it {X:Type} {step:(List D×Int)->Option ((List D×Int)⊕X)} {n:Nat} (hn:n<=2) (p:Nat->Bool) (x:List D->X)
  (hs : ∀ (i:Nat) (o:List Int),i<n->o.length<=i->step (eInts o,(i:Int))=some (.inl (eInts (bif p i then o++[(i:Int)] else o),((i+1:Nat):Int)))) (he : ∀ o:List Int,step (eInts o,(n:Int))=some (.inr (x (eInts o)))) :
  iter step ([],0)=some (x (eInts (((List.range' 0 n).filter p).map fun t:Nat=>(t:Int)))):=by
 have key : ∀ (k i:Nat) (o:List Int),i+k=n->o.length<=i->iter step (eInts o,(i:Int))=some (x (eInts (o++((List.range' i k).filter p).map fun t:Nat=>(t:Int)))):=by
  intro k
  induction k with
  | zero=>intro i o hi _;obtain rfl:i=n:=by omega
          rw [iter_inr (he o)];simp
  | succ k ih =>
    intro i o hi ho
    rw [iter_inl (hs i o (by omega) ho),ih (i+1) _ (by omega) (by cases p i <;> simp <;> omega),List.range'_succ,List.filter_cons]
    cases p i <;> simp
 have:=key n 0 [] (by omega) (by simp)
 simpa using this
end
theorem Z21_same (l:List Int) (hl:l.length<Lg):Z21 Ar.std (eInts l) (eInts l)=some true:=by
 unfold Z21
 refine cnT (by simp) ?_
 have e:iter (Z21L0 Ar.std (eInts l) (eInts l)) 0=some (bif l.any (fun _=>false) then .inr () else .inl ()):=by
  refine iter_any l _ _ _ (fun i x hn hi => ?_) ?_
  ·unfold Z21L0
   refine cnT (by simp;omega) (bt (gt_enc (c:=cI .i64) hn) (bt (gt_enc (c:=cI .i64) hn) (cnT (by simp) ?_)))
   simp only [std_wrp,std_zadd,wrap1 hi hl];rfl
  ·unfold Z21L0
   exact cnF (by simp) rfl
 rw [e,bsome,List.any_eq_false.2 (fun _ _=>by simp)];rfl
def saneC:Code:=[[(1,0,0,0),(5,2,0,1),(2,0,2,0),(7,0,0,0)]]
theorem saneR1:(runOf saneC [[0],[0]] [0,0,1,1,0,0,1,1] Mc.h []).1=[((0,0,0,0,1,12):Int×Int×Int×Int×Int×Int),(1,0,0,0,5,16)]:=by decide +kernel
theorem saneR2:(runOf saneC [[0],[0]] [0,0,1,1,0,0,1,1] Mc.h []).2=0:=by decide +kernel
theorem Z9_eq:Z9 Ar.std=some true:=by
 have e:=Z15_eq (c:=saneC) (u:=[[0],[0]]) (sch:=[0,0,1,1,0,0,1,1]) ⟨by show 1<9223372036854775808;decide,by decide +kernel⟩ ⟨by show 2<9223372036854775808;decide,by decide +kernel⟩ (by show 8<9223372036854775808;decide)
 rw [saneR1,saneR2] at e
 unfold Z9
 refine bt (v:=(eCalls [(0,0,0,0,1,12),(1,0,0,0,5,16)],0)) e (bt (v:=true) ?_ rfl)
 refine cnT rfl (cnT rfl (bt (gc_enc (c:=cCall) (i:=0) rfl) (cnT (by simp) (bt (gc_enc (c:=cCall) (i:=1) rfl) ?_))))
 simp
end Go.Am

namespace Go.Am
open Go
theorem Z115_eq (a b c:Int):Z115 Ar.std a b c=some (btw a b c):=by simp [Z115,btw]
def rowOk (ops lim:Int) (r:List Int):Bool:=decide ((r.length:Int)=ops)&&r.all fun n=>btw 0 n lim
def tabOk (st ops lim:Int) (t:Tab):Bool:=decide ((t.length:Int)=st)&&t.all (rowOk ops lim)
def specOk (s:Spec):Bool:=btw 1 s.1 8&&(btw 1 s.2.1 4&&(tabOk s.1 s.2.1 (s.1-1) s.2.2.1&&tabOk s.1 s.2.1 5 s.2.2.2))
section
variable (a b:Int) (t u:List D) (lim:Int)
theorem Z158b_eq (r:List Int) (hr:r.length<Lg):Z158b Ar.std (eInts r) lim=some (r.any fun n => !btw 0 n lim):=by
 have e:iter (Z189bL0 Ar.std (eInts r) lim) 0=some ((r.findIdx? fun n => !btw 0 n lim).elim (.inl ()) (fun i => .inr (i:Int))):=by
  refine iter_find r _ _ _ (fun i n hn hi => ?_) ?_
  ·simp [Z189bL0,Z159,Z115_eq,gt_enc hn,hi,wrap1 hi hr]
  ·simp [Z189bL0]
 simp only [Z158b,Z189b,e,bsome,find_elim,std_zle,find_le]
theorem Z157_eq (r:List Int) (hr:r.length<Lg):Z157 Ar.std (eInts r) a b t u lim=some (!rowOk b lim r):=by
 simp only [Z157,Z158b_eq lim r hr,bsome,std_zeq,len_enc,cond_some,rowOk]
 cases h:decide ((r.length:Int)=b) <;> simp [any_notB]
theorem Z122a_eq (x:Tab) (hx:TabOk x):Z122a Ar.std (eTab x) a b t u lim=some (x.any fun r => !rowOk b lim r):=by
 have e:iter (Z164aL0 Ar.std (eTab x) a b t u lim) 0=some ((x.findIdx? fun r => !rowOk b lim r).elim (.inl ()) (fun i => .inr (i:Int))):=by
  refine iter_find x _ _ _ (fun i r hn hi => ?_) ?_
  ·simp [Z164aL0,Z157_eq a b t u lim r (hx.2 r (List.mem_of_getElem? hn)),gt_eTab hn,hi,wrap1 hi hx.1]
  ·simp [Z164aL0]
 simp only [Z122a,Z164a,e,bsome,find_elim,std_zle,find_le]
theorem Z116_eq (x:Tab) (hx:TabOk x):Z116 Ar.std a b t u (eTab x) lim=some (tabOk a b lim x):=by
 simp only [Z116,Z122a_eq a b t u lim x hx,bsome,std_zeq,len_eTab,cond_some,tabOk]
 cases h:decide ((x.length:Int)=a) <;> simp [any_notB]
end
theorem Z81_eq (s:Spec) (h1:TabOk s.2.2.1) (h2:TabOk s.2.2.2):Z81 Ar.std s.1 s.2.1 (eTab s.2.2.1) (eTab s.2.2.2)=some (specOk s):=by
 simp only [Z81,Z115_eq,Z116_eq _ _ _ _ _ _ h1,Z116_eq _ _ _ _ _ _ h2,bsome]
 by_cases hb:btw 1 s.1 8=true
 ·have:=(btw_true _ _ _).1 hb
  simp only [std_wrp,std_zsub,wrapS (x:=s.1) (by omega) (by omega),specOk,cond_some,bsome,bif_and]
 ·simp [specOk,hb]
theorem Z79_eq (a b:Int) (t u:List D) (lim:Int) (x:Tab) (hx:TabOk x):Z79 Ar.std a b t u (eTab x) lim=some (tabOk a b (lim-1) x):=by
 have e0 : ∀ r:List Int,r.length<Lg->iter (Z79L0 Ar.std lim (eInts r)) 0=some (bif (r.any fun n => !btw 0 n (lim-1)) then .inr () else .inl ()):=by
  intro r hr
  refine iter_any r _ _ _ (fun i n hn hi => ?_) ?_
  ·have:(decide (n<0)||decide (lim<=n)) = !btw 0 n (lim-1):=by
    rw [Bool.eq_iff_iff];simp [btw];omega
   simp [Z79L0,gt_enc hn,hi,wrap1 hi hr,this]
  ·simp [Z79L0]
 have e:iter (Z79L1 Ar.std b (eTab x) lim) 0=some (bif (x.any fun r => !rowOk b (lim-1) r) then .inr () else .inl ()):=by
  refine iter_any x _ _ _ (fun i r hn hi => ?_) ?_
  ·simp only [Z79L1,std_zlt,len_eTab,ltC hi,cond_true,gt_eTab hn,bsome,e0 r (hx.2 r (List.mem_of_getElem? hn)),std_zeq,len_enc,std_wrp,std_zadd,wrap1 hi hx.1,rowOk]
   cases decide ((r.length:Int)=b) <;> simp [any_notB]
  ·simp [Z79L1]
 simp only [Z79,e,bsome,std_zeq,len_eTab,tabOk]
 cases decide ((x.length:Int)=a) <;> simp [any_notB]
theorem Z31_eq (s:Spec) (h1:TabOk s.2.2.1) (h2:TabOk s.2.2.2):Z31 Ar.std s.1 s.2.1 (eTab s.2.2.1) (eTab s.2.2.2)=some (specOk s):=by
 simp only [Z31,Z79_eq _ _ _ _ _ _ h1,Z79_eq _ _ _ _ _ _ h2,bsome,std_zle,cond_some,specOk,btw]
 cases decide (1<=s.1) <;> cases decide (s.1<=8) <;> cases decide (1<=s.2.1) <;> cases decide (s.2.1<=4) <;> simp
def nx (t:Tab) (now op:Int):Int:=(t.getD now.toNat []).getD op.toNat 0
theorem tab_get {st ops lim:Int} {t:Tab} (h:tabOk st ops lim t=true) {now op:Int} (h1:0<=now) (h2:now<st) (h3:0<=op) (h4:op<ops) :
  ∃ r,t[now.toNat]?=some r/\r[op.toNat]?=some (nx t now op)/\0<=nx t now op/\nx t now op<=lim:=by
 simp only [tabOk,zp4,decide_eq_true_eq,List.all_eq_true] at h
 obtain ⟨hl,hr⟩:=h
 have hlt:now.toNat<t.length:=by omega
 have hrow:=hr _ (zp6 hlt)
 simp only [rowOk,zp4,decide_eq_true_eq,List.all_eq_true] at hrow
 have hlt2:op.toNat<t[now.toNat].length:=by omega
 have hn:=hrow.2 _ (zp6 hlt2)
 rw [btw_true] at hn
 have e:nx t now op=t[now.toNat][op.toNat]:=by
  simp only [nx,List.getD_eq_getElem?_getD,zp1 hlt,Option.getD_some,zp1 hlt2]
 refine ⟨_,zp1 hlt,?_,?_⟩
 ·rw [e];exact zp1 hlt2
 ·rw [e];exact hn
theorem specOk_iff (x:Spec):specOk x=true↔(1<=x.1/\x.1<=8)/\(1<=x.2.1/\x.2.1<=4)/\tabOk x.1 x.2.1 (x.1-1) x.2.2.1=true/\tabOk x.1 x.2.1 5 x.2.2.2=true:=by
 simp only [specOk,zp4,btw_true]
def specE (s:Spec) (c:Code) (u:Tab):Int:=bif vCode c then bif specOk s&&decide (s.2.1=(c.length:Int)) then bif vUse c u then 0 else 81 else 10 else 80
theorem Z33_eq (s:Spec) (hs:TabOk s.2.2.1/\TabOk s.2.2.2) (c:Code) (hc:CodeOk c) (u:Tab) (hu:TabOk u):Z33 Ar.std s.1 s.2.1 (eTab s.2.2.1) (eTab s.2.2.2) (eCode c) (eTab u)=some (specE s c u):=by
 unfold Z33 specE
 refine bt (Z80_eq c hc) ?_
 cases hv:vCode c with
 | false=>rfl
 | true =>
   refine bt (v := !(specOk s&&decide (s.2.1=(c.length:Int)))) (bt (Z81_eq s hs.1 hs.2) ?_) ?_
   ·cases specOk s with
    | false=>rfl
    | true=>rw [len_eCode];rfl
   ·cases specOk s&&decide (s.2.1=(c.length:Int)) with
    | false=>rfl
    | true =>
      refine cnF rfl (bt (Z40_eq c hc u hu) ?_)
      simp only [codeE,hv,cond_true]
theorem Z100_eq (s:Spec) (hs:TabOk s.2.2.1/\TabOk s.2.2.2) (c:Code):Z100 Ar.std s.1 s.2.1 (eTab s.2.2.1) (eTab s.2.2.2) (eCode c)=some (specOk s&&decide (s.2.1=(c.length:Int))):=by
 unfold Z100
 refine bt (v:=specOk s&&decide (s.2.1=(c.length:Int))) (bt (Z31_eq s hs.1 hs.2) ?_) rfl
 cases specOk s with
 | false=>rfl
 | true=>rw [len_eCode];rfl
end Go.Am

namespace Go.Am
open Go
theorem Z152_eq (a b c:Int):Z152 Ar.std a b c=some (btw a b c):=by simp [Z152,btw]
def bef (c d:Call):Bool:=decide (c.to≠0)&&decide (c.to<d.fr)
def callOk (c:Call):Bool:=btw 0 c.th 3&&(btw 0 c.ob 1&&(btw 0 c.op 3&&(btw 0 c.sa 9&&(btw 1 c.fr 100&&bif decide (c.to=0) then decide (c.sa=0) else btw (c.fr+1) c.to 100))))
def meet (c d:Call):Bool:=(decide (c.fr=d.fr)||(decide (c.fr=d.to)||(decide (c.to=d.fr)||(decide (c.to≠0)&&decide (c.to=d.to)))))||(decide (c.th=d.th)&&(!bef c d && !bef d c))
def badAt (h:List Call) (i:Nat):Bool:=(h[i]?.map fun c => !callOk c||(h.take i).any (meet c)).getD false
def validH (h:List Call):Bool := !decide (8<(h.length:Int)) && !(List.range h.length).any (badAt h)
theorem badAt_get {h:List Call} {i:Nat} {c:Call} (hc:h[i]?=some c):badAt h i=(!callOk c||(h.take i).any (meet c)):=by simp [badAt,hc]
theorem Z75_eq (c d:Call) (hc:0<=c.to):Z75 Ar.std c.1 c.2.1 c.2.2.1 c.2.2.2.1 c.2.2.2.2.1 c.2.2.2.2.2 d.1 d.2.1 d.2.2.1 d.2.2.2.1 d.2.2.2.2.1 d.2.2.2.2.2=some (bef c d):=by
 simp only [Z75,std_zlt,cond_some,bsome,bef,bif_and]
 have:decide (0<c.2.2.2.2.2)=decide (c.2.2.2.2.2≠0):=by simp only [Call.to] at hc;rw [decide_eq_decide];omega
 rw [this]
theorem callOk_iff (c:Call):callOk c=true↔(0<=c.th/\c.th<=3)/\(0<=c.ob/\c.ob<=1)/\(0<=c.op/\c.op<=3)/\(0<=c.sa/\c.sa<=9)/\(1<=c.fr/\c.fr<=100)/\((c.to=0/\c.sa=0)\/(c.fr<c.to/\c.to<=100)):=by
 simp only [callOk,zp4,btw_true]
 constructor
 ·rintro ⟨h1,h2,h3,h4,h5,h6⟩
  refine ⟨h1,h2,h3,h4,h5,?_⟩
  by_cases h:c.to=0
  ·simp only [h,decide_true,cond_true,decide_eq_true_eq] at h6;exact .inl ⟨h,h6⟩
  ·simp only [h,decide_false,cond_false,btw_true] at h6;exact .inr ⟨by omega,h6.2⟩
 ·rintro ⟨h1,h2,h3,h4,h5,h6⟩
  refine ⟨h1,h2,h3,h4,h5,?_⟩
  rcases h6 with ⟨h6,h7⟩ | ⟨h6,h7⟩
  ·simp [h6,h7]
  ·have:c.to≠0:=by omega
   simp only [this,decide_false,cond_false,btw_true];omega
theorem Z184_eq (c:Call):Z184 Ar.std c.1 c.2.1 c.2.2.1 c.2.2.2.1 c.2.2.2.2.1 c.2.2.2.2.2=some (callOk c):=by
 simp only [Z184,Z152_eq,bsome,cond_some,std_zeq,std_zlt,callOk,bif_and]
 by_cases h:c.2.2.2.2.2=0
 ·simp only [h,decide_true,cond_true]
  cases btw 0 c.1 3 <;> cases btw 0 c.2.1 1 <;> cases btw 0 c.2.2.1 3 <;> cases btw 0 c.2.2.2.1 9 <;> cases btw 1 c.2.2.2.2.1 100 <;> rfl
 ·simp only [h,decide_false,cond_false]
  have e:btw 1 c.2.2.2.2.1 100=true->(btw 2 c.2.2.2.2.2 100&&decide (c.2.2.2.2.1<c.2.2.2.2.2))=btw (c.2.2.2.2.1+1) c.2.2.2.2.2 100:=by
   intro hb
   rw [btw_true] at hb
   rw [Bool.eq_iff_iff];simp [btw];omega
  cases h5:btw 1 c.2.2.2.2.1 100
  ·cases btw 0 c.1 3 <;> cases btw 0 c.2.1 1 <;> cases btw 0 c.2.2.1 3 <;> cases btw 0 c.2.2.2.1 9 <;> rfl
  ·rw [e h5]
   cases btw 0 c.1 3 <;> cases btw 0 c.2.1 1 <;> cases btw 0 c.2.2.1 3 <;> cases btw 0 c.2.2.2.1 9 <;> rfl
def tkS (t:List Bool) (c:Call):List Bool:=bif decide (0<c.to) then (t.set c.fr.toNat true).set c.to.toNat true else t.set c.fr.toNat true
def tkB (pre:List Call):List Bool:=pre.foldl tkS (List.replicate 101 false)
def occ (m:Int) (d:Call):Bool:=decide (d.fr=m)||(decide (0<d.to)&&decide (d.to=m))
theorem tkB_snoc (pre:List Call) (c:Call):tkB (pre++[c])=tkS (tkB pre) c:=by simp [tkB]
theorem tkB_get : ∀ (pre:List Call),(∀ d∈pre,callOk d=true)->(tkB pre).length=101 /\ ∀ m:Nat,m<=100->(tkB pre)[m]?=some (pre.any (occ m)):=by
 intro pre
 induction h:pre.length generalizing pre with
 | zero =>
   intro _
   obtain rfl:=List.length_eq_zero_iff.1 h
   refine ⟨rfl,fun m hm => ?_⟩
   show (List.replicate 101 false)[m]?=_
   rw [List.getElem?_replicate,if_pos (by omega)];rfl
 | succ n ih =>
   intro hok
   obtain ⟨p,c,rfl⟩ : ∃ p c,pre=p++[c]:=⟨pre.dropLast,pre.getLast (by intro e;rw [e] at h;cases h),(List.dropLast_concat_getLast _).symm⟩
   obtain ⟨h1,h2⟩:=ih p (by simpa using h) (fun d hd=>hok d (by simp [hd]))
   obtain ⟨_,_,_,_,h5,h6⟩:=(callOk_iff c).1 (hok c (by simp))
   rw [tkB_snoc]
   refine ⟨by unfold tkS;cases decide (0<c.to) <;> simp [h1],fun m hm => ?_⟩
   rw [List.any_append]
   simp only [List.any_cons,List.any_nil,Bool.or_false]
   have hg : ∀ t:List Bool,t.length=101 -> ∀ a:Int,0<=a -> ∀ b,t[m]?=some b->(t.set a.toNat true)[m]?=some (b||decide (a=m)):=by
    intro t ht a ha b hb
    rw [List.getElem?_set]
    by_cases he:a.toNat=m
    ·have:a=m:=by omega
     simp [he,this,ht];omega
    ·have : ¬ a=m:=by omega
     simp [he,this,hb]
   unfold tkS occ
   by_cases hto:0<c.to
   ·simp only [hto,decide_true,cond_true,Bool.true_and]
    rw [hg _ (by simp [h1]) _ (by omega) _ (hg _ h1 _ (by omega) _ (h2 m hm))]
    simp only [Bool.or_assoc];rfl
   ·simp only [hto,decide_false,cond_false,Bool.false_and,Bool.or_false]
    exact hg _ h1 _ (by omega) _ (h2 m hm)
def over (c d:Call):Bool:=decide (c.th=d.th)&&(!bef c d && !bef d c)
theorem meet_any {c:Call} (hc:callOk c=true) (pre:List Call) (hp : ∀ d∈pre,callOk d=true):pre.any (meet c)=((pre.any (occ c.fr)||(decide (0<c.to)&&pre.any (occ c.to)))||pre.any (over c)):=by
 rw [<-any_andC,<-any_orB,<-any_orB]
 refine any_congr fun d hd => ?_
 obtain ⟨_,_,_,_,c5,c6⟩:=(callOk_iff c).1 hc
 obtain ⟨_,_,_,_,d5,d6⟩:=(callOk_iff d).1 (hp d hd)
 unfold meet occ over
 congr 1
 rw [Bool.eq_iff_iff]
 simp only [Bool.or_eq_true,zp4,decide_eq_true_eq]
 omega
theorem Z150_eq (h:List Call) (hl:h.length<Lg):Z150 Ar.std (eCalls h)=some (validH h):=by
 have hok : ∀ i,i<=h.length->(∀ j,j<i->badAt h j=false) -> ∀ d∈h.take i,callOk d=true:=by
  intro i hi hb d hd
  obtain ⟨j,hj,rfl⟩:=List.getElem_of_mem hd
  have hj1:j<i/\j<h.length:=by simp at hj;omega
  have:=hb j hj1.1
  rw [badAt_get (zp1 hj1.2),Bool.or_eq_false_iff] at this
  rw [List.getElem_take]
  simpa using this.1
 have e0 : ∀ i c,h[i]?=some c->callOk c=true->i<=h.length->(∀ j,j<i->badAt h j=false)->iter (Z150L0 Ar.std c.1 c.2.1 c.2.2.1 c.2.2.2.1 c.2.2.2.2.1 c.2.2.2.2.2 (eCalls (h.take i))) 0=some (bif (h.take i).any (over c) then .inr () else .inl ()):=by
  intro i c hc hcok hi hb
  have hlen:(h.take i).length=i:=by simp;omega
  refine iter_any (h.take i) _ _ _ (fun k d hd hk => ?_) (by simp [Z150L0])
  have hlt:(h.take i).length<9223372036854775808:=Nat.lt_of_le_of_lt (by rw [hlen];exact hi) hl
  have hdok:=hok i hi hb d (List.mem_of_getElem? hd)
  obtain ⟨_,_,_,_,c5,c6⟩:=(callOk_iff c).1 hcok
  obtain ⟨_,_,_,_,d5,d6⟩:=(callOk_iff d).1 hdok
  simp only [Z150L0,std_zlt,len_enc,ltC hk,cond_true,gt_enc hd,bsome,std_zeq,Z75_eq c d (by omega),Z75_eq d c (by omega),cond_some,std_wrp,std_zadd,wrap1 hk hlt,over,Call.th,bif_nand,bif_and]
 have hstop:=iter_stop (step:=Z150L1 Ar.std (eCalls h)) h.length (fun i=>((i:Int),enc cB (tkB (h.take i)))) (badAt h) (enc cB (tkB (h.take h.length))) (fun i hi hb => ?_) (fun hb=>by simp [Z150L1])
 ·unfold Z150
  simp only [std_zlt,len_enc,validH]
  have e1:(0,Ar.std.rep (Int.ofNat 101) (D.bool false))=((0:Int),enc cB (tkB (h.take 0))):=by
   rw [show (D.bool false)=cB.en false from rfl,enc_rep];simp [tkB]
  simp only [e1]
  have z:((0:Nat):Int)=0:=rfl
  rcases hstop with ⟨h1,_,h3⟩ | ⟨h1,x,h3⟩
  ·rw [show ((0:Int),enc cB (tkB (h.take 0)))=(((0:Nat):Int),enc cB (tkB (h.take 0))) from rfl,h3,h1]
   cases decide (8<(h.length:Int)) <;> rfl
  ·rw [show ((0:Int),enc cB (tkB (h.take 0)))=(((0:Nat):Int),enc cB (tkB (h.take 0))) from rfl,h3,h1]
   cases decide (8<(h.length:Int)) <;> rfl
 ·have hc:=zp1 hi
  generalize h[i]=c at hc
  have hpre:=hok i (by omega) hb
  obtain ⟨t1,t2⟩:=tkB_get _ hpre
  rw [badAt_get hc]
  simp only [Z150L1,std_zlt,len_enc,ltC hi,cond_true,gt_enc hc,bsome,Z184_eq]
  cases hcok:callOk c with
  | false=>simp only [cond_false,bsome,cond_true,Bool.not_false,Bool.true_or];exact ⟨fun h=>(by cases h),fun _=>⟨_,rfl⟩⟩
  | true =>
    obtain ⟨_,_,_,_,c5,c6⟩:=(callOk_iff c).1 hcok
    have w0:decide (0<=c.2.2.2.2.1)=true:=by simp only [Call.fr] at c5;simp;omega
    have w1:decide (c.2.2.2.2.1<Int.ofNat 101)=true:=by simp only [Call.fr] at c5;simp;omega
    have ix:Ar.std.nat (Ar.std.zadd 0 (Ar.std.zmul c.2.2.2.2.1 (Int.ofNat 1)))=c.fr.toNat:=by simp
    have g1:gc Ar.std cB (enc cB (tkB (h.take i))) c.fr.toNat=some ((h.take i).any (occ c.fr)):=by
     refine gc_enc ?_
     have:=t2 c.fr.toNat (by omega)
     rw [this,show ((c.fr.toNat:Nat):Int)=c.fr by omega]
    have g2:Ar.std.lget (enc cB (tkB (h.take i))) c.fr.toNat=some (cB.en ((h.take i).any (occ c.fr))):=by
     rw [std_lget,enc_get]
     have:=t2 c.fr.toNat (by omega)
     rw [this,show ((c.fr.toNat:Nat):Int)=c.fr by omega];rfl
    have hset : ∀ (l:List Bool) (a:Nat),Ar.std.lset (enc cB l) a (D.bool true)=enc cB (l.set a true):=fun l a=>enc_set l a true
    rw [meet_any hcok _ hpre]
    simp only [cond_true,std_zle,std_zlt,w0,w1,ck_true,bsome,ix,g1,g2,Bool.not_true,Bool.false_or,hset]
    cases hA:(h.take i).any (occ c.fr) with
    | true=>simp only [cond_true,Bool.true_or];exact ⟨fun h=>(by cases h),fun _=>⟨_,rfl⟩⟩
    | false =>
      simp only [cond_false,jn,Bool.false_or]
      have hin:=e0 i c hc hcok (by omega) hb
      have tk1:tkB (h.take (i+1))=tkS (tkB (h.take i)) c:=by rw [take_succ_get hc,tkB_snoc]
      by_cases hto:0<c.2.2.2.2.2
      ·have ix2:Ar.std.nat (Ar.std.zadd 0 (Ar.std.zmul c.2.2.2.2.2 (Int.ofNat 1)))=c.to.toNat:=by simp
       have v0:decide (0<=c.2.2.2.2.2)=true:=by simp;omega
       have v1:decide (c.2.2.2.2.2<Int.ofNat 101)=true:=by simp only [Call.to] at c6;simp;omega
       have hne : ¬ c.fr.toNat=c.to.toNat:=by simp only [Call.to,Call.fr] at *;omega
       have hget:((tkB (h.take i)).set c.fr.toNat true)[c.to.toNat]?=some ((h.take i).any (occ c.to)):=by
        rw [List.getElem?_set,if_neg hne]
        have:=t2 c.to.toNat (by simp only [Call.to] at *;omega)
        rw [this,show ((c.to.toNat:Nat):Int)=c.to by simp only [Call.to] at *;omega]
       have g3:gc Ar.std cB (enc cB ((tkB (h.take i)).set c.fr.toNat true)) c.to.toNat=some ((h.take i).any (occ c.to)):=gc_enc hget
       have g4:Ar.std.lget (enc cB ((tkB (h.take i)).set c.fr.toNat true)) c.to.toNat=some (cB.en ((h.take i).any (occ c.to))):=by
        rw [std_lget,enc_get,hget];rfl
       have hS:tkS (tkB (h.take i)) c=((tkB (h.take i)).set c.fr.toNat true).set c.to.toNat true:=by simp only [tkS,Call.to,hto,decide_true,cond_true]
       simp only [hto,decide_true,cond_true,v0,v1,ck_true,bsome,ix2,g3,g4,Bool.true_and,hset]
       cases hB:(h.take i).any (occ c.to) with
       | true=>simp only [cond_true,Bool.true_or];exact ⟨fun h=>(by cases h),fun _=>⟨_,rfl⟩⟩
       | false =>
         simp only [cond_false,Bool.false_or,sl_encT (Nat.le_of_lt hi),bsome,hin,tk1,hS]
         cases hC:(h.take i).any (over c) with
         | true=>exact ⟨fun h=>(by cases h),fun _=>⟨_,rfl⟩⟩
         | false =>
           refine ⟨fun _ => ?_,fun h=>(by cases h)⟩
           simp only [cond_false,Sum.elim_inl,std_wrp,std_zadd,wrap1 hi hl]
      ·have hS:tkS (tkB (h.take i)) c=((tkB (h.take i)).set c.fr.toNat true):=by simp only [tkS,Call.to,hto,decide_false,cond_false]
       simp only [hto,decide_false,cond_false,Bool.false_and,Bool.false_or,sl_encT (Nat.le_of_lt hi),bsome,hin,tk1,hS]
       cases hC:(h.take i).any (over c) with
       | true=>exact ⟨fun h=>(by cases h),fun _=>⟨_,rfl⟩⟩
       | false =>
         refine ⟨fun _ => ?_,fun h=>(by cases h)⟩
         simp only [cond_false,Sum.elim_inl,std_wrp,std_zadd,wrap1 hi hl]
theorem validH_iff (h:List Call):validH h=true↔h.length<=8 /\ ∀ i c,h[i]?=some c->callOk c=true /\ ∀ d∈h.take i,meet c d=false:=by
 simp only [validH,zp4,Bool.not_eq_true',decide_eq_false_iff_not,List.any_eq_false,List.mem_range]
 constructor
 ·rintro ⟨h1,h2⟩
  refine ⟨by omega,fun i c hc => ?_⟩
  have:=h2 i (zp2.1 hc).1
  rw [badAt_get hc] at this
  simp only [Bool.or_eq_true,not_or,Bool.not_eq_true,Bool.not_eq_false',List.any_eq_false] at this
  exact ⟨this.1,fun d hd=>by simpa using this.2 d hd⟩
 ·rintro ⟨h1,h2⟩
  refine ⟨by omega,fun i hi => ?_⟩
  have hc:=zp1 hi
  obtain ⟨q1,q2⟩:=h2 i _ hc
  rw [badAt_get hc]
  simp only [q1,Bool.not_true,Bool.false_or,List.any_eq_true,not_exists,not_and,Bool.not_eq_true]
  exact q2
theorem validH_ok {h:List Call} (hv:validH h=true):h.length<=8 /\ ∀ c∈h,callOk c=true:=by
 obtain ⟨h1,h2⟩:=(validH_iff h).1 hv
 refine ⟨h1,fun c hc => ?_⟩
 obtain ⟨i,hi,rfl⟩:=List.getElem_of_mem hc
 exact (h2 i _ (zp1 hi)).1
section
variable {h:List Call}
theorem scalCalls (h:List Call):scalars (eCalls h)=true:=by
 simp only [scalars,eCalls,enc,List.all_map,List.all_eq_true]
 intro c _
 rfl
def cutC (m:Int) (c:Call):Call:=bif decide (m<c.to) then (c.1,c.2.1,c.2.2.1,0,c.2.2.2.2.1,0) else c
def untH (h:List Call) (m:Int):List Call:=(h.filter fun c=>decide (c.fr<=m)).map (cutC m)
end
end Go.Am

namespace Go.Am
open Go
def TR (x y:Call):Prop:=x.fr<y.fr/\(x.to≠0->x.to≠y.to)/\(x.th=y.th->x.to≠0/\x.to<y.fr)
def TC (c:Code) (st:Int) (x:Call):Prop:=(0<=x.th/\x.th<=1)/\x.ob=0/\(0<=x.op/\x.op<c.length)/\dg x.sa/\(1<=x.fr/\x.fr<=2*st-1/\x.fr%2=1)/\((x.to=0/\x.sa=0)\/(x.fr<x.to/\x.to<=2*st/\x.to%2=0))
def opsOf (h:List Call) (t:Int):List Int:=(h.filter fun x=>decide (x.th=t)).map fun x=>x.op
structure TInv (c:Code) (u:Tab) (m:Mc):Prop where
 one : ∀ x∈m.h,TC c m.st x
 two:m.h.Pairwise TR
 ops : ∀ t:Nat,t<2->opsOf m.h t=(u.getD t []).take ((m.hd t).cl.toNat+(bif (m.hd t).inn then 1 else 0))
 le : ∀ t:Nat,t<2->(m.hd t).cl.toNat+(bif (m.hd t).inn then 1 else 0)<=(u.getD t []).length
 st0:0<=m.st
theorem tinv0 (c:Code) (u:Tab):TInv c u mc0 :=
 ⟨fun x hx=>by simp [mc0] at hx,List.Pairwise.nil,fun t ht=>by
  have e:mc0.hd t=hd0:=by unfold Mc.hd;split <;> rfl
  rw [e];simp [opsOf,mc0,hd0],fun t ht=>by
  have e:mc0.hd t=hd0:=by unfold Mc.hd;split <;> rfl
  rw [e];simp [hd0],Int.le_refl _⟩
theorem opsOf_set (h:List Call) (i:Nat) (x x':Call) (hx:h[i]?=some x) (h1:x'.1=x.1) (h2:x'.2.2.1=x.2.2.1) (t:Int):opsOf (h.set i x') t=opsOf h t:=by
 have key : ∀ l:List Call,opsOf l t=((l.map fun x=>(x.1,x.2.2.1)).filter fun p=>decide (p.1=t)).map Prod.snd:=by
  intro l
  unfold opsOf
  rw [List.filter_map,List.map_map];rfl
 rw [key,key]
 congr 2
 rw [List.map_set]
 refine List.ext_getElem? fun j => ?_
 by_cases he:i=j
 ·subst he
  have hl:i<(h.map fun x:Call=>(x.1,x.2.2.1)).length:=by rw [List.length_map];exact (zp2.1 hx).1
  rw [List.getElem?_set_self hl,List.getElem?_map,hx,h1,h2];rfl
 ·rw [List.getElem?_set_ne he]
theorem opsOf_app (h:List Call) (x:Call) (t:Int):opsOf (h++[x]) t=bif decide (x.1=t) then opsOf h t++[x.2.2.1] else opsOf h t:=by
 unfold opsOf
 rw [List.filter_append,List.map_append]
 by_cases hd:x.1=t <;> simp [hd]
theorem take_snoc {l:List Int} {n:Nat} {x:Int} (h:l[n]?=some x):l.take (n+1)=l.take n++[x]:=take_succ_get h
section
variable {c:Code} {u:Tab} {t:Nat} {m:Mc}
structure TB (c:Code) (u:Tab) (t:Nat) (m:Mc):Prop where
 one : ∀ x∈(stB u t m).2.2.2.2.2.1,TC c (m.st+1) x/\x.to<=2*m.st
 two:(stB u t m).2.2.2.2.2.1.Pairwise TR
 ops:opsOf (stB u t m).2.2.2.2.2.1 t=(u.getD t []).take ((m.hd t).cl.toNat+1)
 oth : ∀ t':Nat,t'≠t->opsOf (stB u t m).2.2.2.2.2.1 t'=opsOf m.h t'
 pre : ∀ k:Int,k<=m.st->untH (stB u t m).2.2.2.2.2.1 (2*k)=untH m.h (2*k)
theorem tc_mono {x:Call} {st:Int} (h:TC c st x):TC c (st+1) x:=by
 obtain ⟨a,b,d,e,f,g⟩:=h
 refine ⟨a,b,d,e,⟨f.1,by omega,f.2.2⟩,?_⟩
 rcases g with g | g
 ·exact .inl g
 ·exact .inr ⟨g.1,by omega,g.2.2⟩
theorem tc_to {x:Call} {st:Int} (h0:0<=st) (h:TC c st x):x.to<=2*st:=by
 obtain ⟨a,b,d,e,f,g⟩:=h
 rcases g with g | g <;> omega
theorem tb (hi:MInv c u m) (hT:TInv c u m) (ht:t<2) (g:Go1 c u t m):TB c u t m:=by
 have H:=hi.hd ht
 have hgd:u.getD t []=g.w:=getD_get g.hu
 have hst:=hT.st0
 cases hin:(m.hd t).inn with
 | true =>
   have e:stB u t m=((m.hd t).r0,(m.hd t).r1,(m.hd t).r2,(m.hd t).r3,(m.hd t).at_,m.h,m.ms):=by unfold stB beg;rw [hin];rfl
   have ho:=hT.ops t ht
   rw [hin] at ho
   exact ⟨fun x hx=>by rw [e] at hx;exact ⟨tc_mono (hT.one x hx),tc_to hst (hT.one x hx)⟩,by rw [e];exact hT.two,by rw [e];exact ho,fun _ _=>by rw [e],fun _ _=>by rw [e]⟩
 | false =>
   have e:stB u t m=(0,1,0,0,(m.h.length:Int),m.h++[((t:Int),0,opOf u t (m.hd t).cl,0,2*m.st+1,0)],m.ms++[0]):=by unfold stB beg;rw [hin];rfl
   have eh:(stB u t m).2.2.2.2.2.1=m.h++[((t:Int),0,opOf u t (m.hd t).cl,0,2*m.st+1,0)]:=by rw [e]
   have ho:=hT.ops t ht
   rw [hin] at ho
   simp only [cond_false,Nat.add_zero] at ho
   refine ⟨fun x hx => ?_,?_,?_,fun t' hne => ?_,fun k hk => ?_⟩
   ·rw [eh,List.mem_append,List.mem_singleton] at hx
    rcases hx with hx | rfl
    ·exact ⟨tc_mono (hT.one x hx),tc_to hst (hT.one x hx)⟩
    ·refine ⟨⟨⟨by show (0:Int)<=t;omega,by show (t:Int)<=1;omega⟩,rfl,⟨g.op0,g.opc⟩,⟨Int.le_refl _,by show (0:Int)<=9;decide⟩,⟨by show 1<=2*m.st+1;omega,by show 2*m.st+1<=2*(m.st+1)-1;omega,by show (2*m.st+1)%2=1;omega⟩,.inl ⟨rfl,rfl⟩⟩,by show (0:Int)<=2*m.st;omega⟩
   ·rw [eh,List.pairwise_append]
    refine ⟨hT.two,List.pairwise_singleton _ _,fun x hx y hy => ?_⟩
    rw [List.mem_singleton] at hy;subst hy
    have h1:=hT.one x hx
    have h2:=tc_to hst h1
    obtain ⟨_,_,_,_,f,_⟩:=h1
    refine ⟨by show x.fr<2*m.st+1;omega,fun h=>h,fun hth => ?_⟩
    refine ⟨fun h0 => ?_,by show x.to<2*m.st+1;omega⟩
    obtain ⟨i,hlt,rfl⟩:=List.mem_iff_getElem.1 hx
    have:=(H.uniq i _ (zp1 hlt) hth h0).1
    rw [hin] at this;cases this
   ·rw [eh,opsOf_app,ho,decide_eq_true rfl,cond_true,hgd]
    exact (take_snoc g.hw).symm
   ·rw [eh,opsOf_app,decide_eq_false (by show ¬ (t:Int)=t';omega)];rfl
   ·rw [eh]
    unfold untH
    rw [List.filter_append,List.map_append]
    have:decide (Call.fr ((t:Int),0,opOf u t (m.hd t).cl,0,2*m.st+1,0)<=2*k)=false:=decide_eq_false (by show ¬ 2*m.st+1<=2*k;omega)
    simp [List.filter_cons,this]
theorem tinv_step (hi:MInv c u m) (hT:TInv c u m) (ht:t<2) (g:Go1 c u t m) :
  TInv c u (stepM c u [] t m) /\ ∀ k:Int,k<=m.st->untH (stepM c u [] t m).h (2*k)=untH m.h (2*k):=by
 have B:=binv (u:=u) hi ht
 have T:=tb hi hT ht g
 have hst:=hT.st0
 obtain ⟨x,hx,hx1,hx2,hx3⟩:=B.here
 obtain ⟨d0,d1,d2,d3⟩:=B.reg
 obtain ⟨e0,e1,e2⟩:=hi.cel
 have hgd:u.getD t []=g.w:=getD_get g.hu
 have hcl:=g.cll
 have hcl0:=g.cl0
 have hhd:(stepM c u [] t m).hd t=stH c u t m:=by unfold Mc.hd stepM;simp only;split <;> rfl
 have hho : ∀ t':Nat,t'<2->t'≠t->(stepM c u [] t m).hd t'=m.hd t':=by
  intro t' h2 hne
  match t,t',ht,h2,hne with
  | 0,1,_,_,_=>rfl
  | 1,0,_,_,_=>rfl
  | 0,0,_,_,he=>exact absurd rfl he
  | 1,1,_,_,he=>exact absurd rfl he
 by_cases h7:(stL c u t m).1=7
 ·have e:stX c u t m=_:=xLn_7 (st:=m.st+1) (cl:=(m.hd t).cl) (ln:=(m.hd t).ln) (r0:=(stB u t m).1) (r1:=(stB u t m).2.1) (r2:=(stB u t m).2.2.1) (r3:=(stB u t m).2.2.2.1) (c0:=m.c0) (c1:=m.c1) (c2:=m.c2) h7 hx
  have eh:(stepM c u [] t m).h=(stB u t m).2.2.2.2.2.1.set (stB u t m).2.2.2.2.1.toNat (x.1,x.2.1,x.2.2.1,rg4 (stB u t m).1 (stB u t m).2.1 (stB u t m).2.2.1 (stB u t m).2.2.2.1 (stL c u t m).2.1,x.2.2.2.2.1,2*(m.st+1)):=by
   show (stX c u t m).2.2.2.2.2.2.2.2.2=_;rw [e]
  have ecl:(stH c u t m).cl=(m.hd t).cl+1:=by show (stX c u t m).1=_;rw [e]
  have ein:(stH c u t m).inn=false:=by show (!decide ((stL c u t m).1=7))=false;rw [decide_eq_true h7];rfl
  have hdg:=rg4_dg (i:=(stL c u t m).2.1) d0 d1 d2 d3
  generalize rg4 (stB u t m).1 (stB u t m).2.1 (stB u t m).2.2.1 (stB u t m).2.2.2.1 (stL c u t m).2.1=v at eh hdg
  have hxm:=T.one x (List.mem_of_getElem? hx)
  generalize hI:(stB u t m).2.2.2.2.1.toNat=I at eh hx
  have hlt:I<(stB u t m).2.2.2.2.2.1.length:=(zp2.1 hx).1
  obtain ⟨⟨q1,q2,q3,q4,q5,q6⟩,q7⟩:=hxm
  have hnew:TC c (m.st+1) (x.1,x.2.1,x.2.2.1,v,x.2.2.2.2.1,2*(m.st+1)):=by
   refine ⟨q1,q2,q3,hdg,q5,.inr ⟨?_,Int.le_refl _,?_⟩⟩
   ·show x.2.2.2.2.1<2*(m.st+1);have:=q5.2.1;simp only [Call.fr] at this;omega
   ·show (2*(m.st+1))%2=0;omega
  refine ⟨⟨fun y hy => ?_,?_,fun t' ht' => ?_,fun t' ht' => ?_,by rw [step_st];omega⟩,fun k hk => ?_⟩
  ·rw [eh] at hy
   rw [step_st]
   rcases List.mem_or_eq_of_mem_set hy with hy | rfl
   ·exact (T.one y hy).1
   ·exact hnew
  ·rw [eh,List.pairwise_iff_getElem]
   intro i j hi' hj' hij
   rw [List.length_set] at hi' hj'
   have hP:=(List.pairwise_iff_getElem.1 T.two) i j hi' hj' hij
   have hmi:=(T.one _ (zp6 hi')).2
   have hmj:=(T.one _ (zp6 hj')).2
   rw [List.getElem_set,List.getElem_set]
   by_cases hIi:I=i
   ·have hIj : ¬ I=j:=by omega
    rw [if_pos hIi,if_neg hIj]
    subst hIi
    have hxe:(stB u t m).2.2.2.2.2.1[I]=x:=(zp2.1 hx).2
    rw [hxe] at hP
    refine ⟨hP.1,fun _ => ?_,fun hth=>absurd hx3 (hP.2.2 hth).1⟩
    show 2*(m.st+1)≠_;omega
   ·rw [if_neg hIi]
    by_cases hIj:I=j
    ·rw [if_pos hIj]
     subst hIj
     have hxe:(stB u t m).2.2.2.2.2.1[I]=x:=(zp2.1 hx).2
     rw [hxe] at hP
     refine ⟨hP.1,fun _ => ?_,hP.2.2⟩
     show _≠2*(m.st+1);omega
    ·rw [if_neg hIj];exact hP
  ·rw [eh,opsOf_set _ _ x (x.1,x.2.1,x.2.2.1,v,x.2.2.2.2.1,2*(m.st+1)) hx rfl rfl]
   by_cases he:t'=t
   ·subst he
    rw [hhd,ecl,ein,T.ops]
    congr 1
    simp only [cond_false];omega
   ·rw [hho t' ht' he,T.oth t' he,hT.ops t' ht']
  ·by_cases he:t'=t
   ·subst he
    rw [hhd,ecl,ein,hgd]
    simp only [cond_false];omega
   ·rw [hho t' ht' he];exact hT.le t' ht'
  ·rw [<-T.pre k hk,eh]

   have hcut:cutC (2*k) (x.1,x.2.1,x.2.2.1,v,x.2.2.2.2.1,2*(m.st+1))=cutC (2*k) x:=by
    have hx0:x.to=0:=hx3
    have hs0:x.sa=0:=by rcases q6 with h | h <;> omega
    unfold cutC
    rw [show decide (2*k<Call.to (x.1,x.2.1,x.2.2.1,v,x.2.2.2.2.1,2*(m.st+1)))=true from decide_eq_true (by show 2*k<2*(m.st+1);omega)]
    rw [cond_true]
    have:x=(x.1,x.2.1,x.2.2.1,0,x.2.2.2.2.1,0):=by
     obtain ⟨a1,a2,a3,a4,a5,a6⟩:=x
     simp only [Call.to,Call.sa] at hx0 hs0
     subst hx0 hs0;rfl
    cases decide (2*k<x.to) with
    | true=>rfl
    | false=>exact this.symm
   have key : ∀ (l:List Call) (i:Nat),l[i]?=some x->untH (l.set i (x.1,x.2.1,x.2.2.1,v,x.2.2.2.2.1,2*(m.st+1))) (2*k)=untH l (2*k):=by
    intro l
    induction l with
    | nil=>intro i hi';simp at hi'
    | cons y r ih =>
      intro i hi'
      cases i with
      | zero =>
        simp at hi';subst hi'
        rw [List.set_cons_zero]
        unfold untH
        rw [List.filter_cons,List.filter_cons]
        show List.map _ (if decide (y.fr<=2*k)=true then _ else _)=List.map _ (if decide (y.fr<=2*k)=true then _ else _)
        cases decide (y.fr<=2*k) with
        | true=>simp only [if_true,List.map_cons,hcut]
        | false=>rfl
      | succ i =>
        have:=ih i (by simpa using hi')
        rw [List.set_cons_succ]
        unfold untH at this ⊢
        rw [List.filter_cons,List.filter_cons]
        cases decide (y.fr<=2*k) with
        | true=>simp only [if_true,List.map_cons,this]
        | false=>exact this
   exact key _ _ hx
 ·obtain ⟨q1,_,_,_,q5⟩:=xLn_ne7 (st:=m.st+1) (cl:=(m.hd t).cl) (ln:=(m.hd t).ln) (at_:=(stB u t m).2.2.2.2.1) (h:=(stB u t m).2.2.2.2.2.1) (okCall_line g.call g.hl) h7 d0 d1 d2 d3 e0 e1 e2
  have ecl:(stH c u t m).cl=(m.hd t).cl:=q1
  have eh:(stepM c u [] t m).h=(stB u t m).2.2.2.2.2.1:=q5
  have ein:(stH c u t m).inn=true:=by show (!decide ((stL c u t m).1=7))=true;rw [decide_eq_false h7];rfl
  refine ⟨⟨fun y hy => ?_,by rw [eh];exact T.two,fun t' ht' => ?_,fun t' ht' => ?_,by rw [step_st];omega⟩,fun k hk=>by rw [eh];exact T.pre k hk⟩
  ·rw [eh] at hy;rw [step_st];exact (T.one y hy).1
  ·rw [eh]
   by_cases he:t'=t
   ·subst he;rw [hhd,ecl,ein,T.ops];rfl
   ·rw [hho t' ht' he,T.oth t' he,hT.ops t' ht']
  ·by_cases he:t'=t
   ·subst he
    rw [hhd,ecl,ein,hgd]
    simp only [cond_true];omega
   ·rw [hho t' ht' he];exact hT.le t' ht'
end
end Go.Am

namespace Go.Am
open Go
section
variable {c:Code} {u:Tab} (hv:vCode c=true) (hu:vUse c u=true)
include hv hu
omit hv hu in
theorem two_len (l:List Call) (h : ∀ x∈l,0<=x.th/\x.th<=1):l.length=(opsOf l 0).length+(opsOf l 1).length:=by
 induction l with
 | nil=>rfl
 | cons x r ih =>
   have h1:=h x (List.mem_cons_self ..)
   have h2:=ih (fun y hy=>h y (List.mem_cons_of_mem _ hy))
   unfold opsOf at h2 ⊢
   rw [List.filter_cons,List.filter_cons]
   rcases (by omega:x.th=0\/x.th=1) with h | h
   ·rw [if_pos (decide_eq_true h),if_neg (by simp [h])]
    simp only [List.map_cons,List.length_cons];omega
   ·rw [if_neg (by simp [h]),if_pos (decide_eq_true h)]
    simp only [List.map_cons,List.length_cons];omega
theorem word3 (t:Nat):(u.getD t []).length<=3:=by
 rcases Nat.lt_or_ge t u.length with h | h
 ·rw [getD_get (zp1 h)]
  simp only [vUse,zp4,List.all_eq_true] at hu
  have:=hu.2 _ (zp6 h)
  simp only [okWord,zp4,decide_eq_true_eq] at this
  omega
 ·have:u.getD t []=[]:=by simp [List.getD,List.getElem?_eq_none h]
  rw [this];simp
end
end Go.Am

namespace Go.Am
open Go
structure MkI (m:Mc):Prop where
 rng : ∀ (i:Nat) (x:Int),m.ms[i]?=some x->0<=x/\x<=m.st
 dis : ∀ (i j:Nat) (x:Int),m.ms[i]?=some x->m.ms[j]?=some x->x≠0->i=j
theorem mki0:MkI mc0:=⟨fun i x h=>by simp [mc0] at h,fun i j x h=>by simp [mc0] at h⟩
theorem mki_step {c:Code} {u:Tab} {t:Nat} {m:Mc} (mks:List Int) (hM:MkI m) (hst:0<=m.st):MkI (stepM c u mks t m):=by
 have h1 : ∀ (i:Nat) (x:Int),(stB u t m).2.2.2.2.2.2[i]?=some x->m.ms[i]?=some x\/x=0:=by
  intro i x hx
  unfold stB beg at hx
  cases hin:(m.hd t).inn with
  | true=>rw [hin] at hx;exact .inl hx
  | false =>
    rw [hin] at hx
    replace hx:(m.ms++[0])[i]?=some x:=hx
    rcases Nat.lt_or_ge i m.ms.length with h | h
    ·rw [zp7 h] at hx;exact .inl hx
    ·rw [zp8 h] at hx
     match hq:i-m.ms.length,hx with
     | 0,hx=>simp at hx;exact .inr hx.symm
     | k+1,hx=>simp at hx
 have hs:(stepM c u mks t m).ms=mkd mks (opOf u t (m.hd t).cl) (m.hd t).ln (stB u t m).2.2.2.2.1 (m.st+1) (stB u t m).2.2.2.2.2.2:=rfl
 have hst':(stepM c u mks t m).st=m.st+1:=rfl
 generalize (stB u t m).2.2.2.2.2.2=ms1 at h1 hs
 generalize (stB u t m).2.2.2.2.1=k at hs
 have h2 : ∀ (i:Nat) (x:Int),(stepM c u mks t m).ms[i]?=some x->(ms1[i]?=some x)\/(i=k.toNat/\x=m.st+1):=by
  intro i x hx
  rw [hs] at hx
  unfold mkd at hx
  cases hmk:hasMk mks (opOf u t (m.hd t).cl) (m.hd t).ln with
  | false=>rw [hmk] at hx;exact .inl hx
  | true =>
    rw [hmk,cond_true] at hx
    by_cases hi:k.toNat=i
    ·subst hi
     have hl:k.toNat<ms1.length:=by
      have:=(zp2.1 hx).1
      simpa using this
     rw [List.getElem?_set_self hl] at hx
     exact .inr ⟨rfl,(Option.some.inj hx).symm⟩
    ·rw [List.getElem?_set_ne hi] at hx
     exact .inl hx
 refine ⟨fun i x hx => ?_,fun i j x hx hy hne => ?_⟩
 ·rw [hst']
  rcases h2 i x hx with h | ⟨_,rfl⟩
  ·rcases h1 i x h with h | rfl
   ·have:=hM.rng i x h;omega
   ·omega
  ·omega
 ·rcases h2 i x hx with h | ⟨hi,hxe⟩ <;> rcases h2 j x hy with h' | ⟨hj,hye⟩
  ·rcases h1 i x h with h | h
   ·rcases h1 j x h' with h' | h'
    ·exact hM.dis i j x h h' hne
    ·exact absurd h' hne
   ·exact absurd h hne
  ·rcases h1 i x h with h | h
   ·have:=hM.rng i x h;omega
   ·exact absurd h hne
  ·rcases h1 j x h' with h | h
   ·have:=hM.rng j x h;omega
   ·exact absurd h hne
  ·rw [hi,hj]
def zeroM (m:Mc):Bool:=m.ms.any fun x=>decide (0=x)
end Go.Am

namespace Go.Am
open Go
def overM (u:Tab) (m:Mc):Bool:=(leftM u m).isEmpty
section
variable {m:Mc} (hI:MkI m) (hl:m.ms.length=m.h.length) (hs:m.st<=100)
include hI hl hs
end
section
variable {m:Mc} (hI:MkI m) (hl:m.ms.length=m.h.length) (hs:m.st<=100) (hs0:0<=m.st) (hh:m.h.length<=100)
include hI hl hs hs0 hh
end
end Go.Am
