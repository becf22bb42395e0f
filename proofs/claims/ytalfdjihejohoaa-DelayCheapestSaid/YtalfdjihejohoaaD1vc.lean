/- Own text: D1vc. -/
import Derived.Test.YtalfdjihejohoaaD1r
set_option maxRecDepth 100000
set_option linter.unusedVariables false
set_option linter.unusedSimpArgs false
namespace Go.Am
open Go Go.Proofs
theorem plain_ok (l:List Sta) (hl:l.length<=4000000000):ACall P 72 [.d (.list 3 (l.map dSta))] [] (.own 3 (l.map dSta)) []:=by
 obtain ⟨X,hX⟩ : ∃ X,l.map dSta=X:=⟨_,rfl⟩
 obtain ⟨n,hn⟩ : ∃ n:Int,(X.length:Int)=n:=⟨_,rfl⟩
 have hxl:(l.length:Int)=n:=by rw [<-hn,<-hX];simp
 rw [hX]
 refine ACall.enter hT (fn:=Try.f72) Try.func72 rfl (by decide) (by simp [Try.f72]) rfl rfl rfl rfl (Nat.le_refl _) ?_
 repeat refine AWp.seq ?_
 refine AWp.reg1 {tk:=[2]} hT (fun A hA=>by cbv) (Nat.zero_le _) ?_
 try dsimp only [AExit.then,AExit.block]
 repeat refine AWp.seq ?_
 refine AWp.reg1 {tk:=[3]} hT (fun A hA=>by cbv) (Nat.zero_le _) ?_
 try dsimp only [AExit.then,AExit.block]
 repeat refine AWp.seq ?_
 refine AWp.reg1 {} hT (fun A hA=>by
   have f0:=ar_len hA X n hn
   repeat (cbv;simp only [f0])
   cbv) (Nat.zero_le _) ?_
 try dsimp only [AExit.then,AExit.block]
 refine AWp.block (AWp.loopInv (ι:=Int×List D) (fun p=>0<=p.1/\p.1<=n/\p.2=X.take p.1.toNat) (fun p=>(n-p.1).toNat) [0,3,6,7,8]
  (fun p=>{ env:=[(0,.d (.list 3 X)),(3,.own 3 p.2),(6,.d (.list 3 X)),(7,AI n),(8,AI p.1)],heap:=[],n:=18 }) (0,[]) (by cbv) ⟨Int.le_refl _,by dsimp only;omega,by simp⟩ ?_)
 rintro ⟨z,L⟩ ⟨h0,h1,h2⟩
 dsimp only at *
 by_cases hz:z<n
 ·obtain ⟨z1,hz1⟩ : ∃ z1,z+1=z1:=⟨_,rfl⟩
  obtain ⟨⟨a,b,c⟩,hs⟩ : ∃ s,l[z.toNat]?=some s:=⟨_,zp1 (by omega)⟩
  have hXs:X[z.toNat]?=some (.agg [I a,I b,I c]):=by rw [<-hX,List.getElem?_map,hs];rfl
  obtain ⟨L1,hL1⟩ : ∃ l3,L++[.agg [I a,I b,I c]]=l3:=⟨_,rfl⟩
  have hLl:L.length<=z:=by rw [h2];simp;omega
  repeat refine AWp.seq ?_
  refine AWp.reg1 {} hT (fun A hA=>by
    have f0:=ar_lt hA hz
    repeat (cbv;simp only [f0])
    cbv) (Nat.zero_le _) ?_
  try dsimp only [AExit.then,AExit.block]
  repeat refine AWp.seq ?_
  refine AWp.cond (b:=true) rfl (AWp.skip ?_)
  try dsimp only [AExit.then,AExit.block]
  repeat refine AWp.seq ?_
  refine AWp.block ?_
  repeat refine AWp.seq ?_
  refine AWp.reg1 {} hT (fun A hA=>by
    have f0:=ar_get hA hXs
    have f1:=ar_le hA h0
    repeat (cbv;simp only [f0,f1])
    cbv) (Nat.zero_le _) ?_
  try dsimp only [AExit.then,AExit.block]
  repeat refine AWp.seq ?_
  refine AWp.reg1 {tk:=[3,12,15]} hT (fun A hA=>by
    have f0:=ar_app hA _ _ _ hL1
    have f1:=ar_fits hA L [.agg [I a,I b,I c]] (by simp;omega)
    repeat (cbv;simp only [f0,f1])
    cbv) (Nat.zero_le _) ?_
  try dsimp only [AExit.then,AExit.block]
  repeat refine AWp.seq ?_
  refine AWp.reg1 {} hT (fun A hA=>by
    have f0:=ar_add hA z 1 z1 hz1 (by omega) (by omega)
    repeat (cbv;simp only [f0])
    cbv) (Nat.zero_le _) ?_
  try dsimp only [AExit.then,AExit.block]
  refine ⟨(z1,L1),⟨by dsimp only;omega,by dsimp only;omega,?_⟩,by dsimp only;omega,by cbv⟩
  dsimp only
  rw [<-hL1,h2,show z1.toNat=z.toNat+1 by omega,List.take_add_one,hXs];rfl
 ·repeat refine AWp.seq ?_
  refine AWp.reg1 {} hT (fun A hA=>by
    have f0:=ar_nlt hA hz
    repeat (cbv;simp only [f0])
    cbv) (Nat.zero_le _) ?_
  try dsimp only [AExit.then,AExit.block]
  repeat refine AWp.seq ?_
  refine AWp.cond (b:=false) rfl (AWp.exit ?_)
  try dsimp only [AExit.then,AExit.block]
  rw [if_pos rfl]
  repeat refine AWp.seq ?_
  refine AWp.reg1 {tk:=[3,17]} hT (fun A hA=>by cbv) (Nat.zero_le _) ?_
  try dsimp only [AExit.then,AExit.block]
  repeat refine AWp.seq ?_
  refine AWp.ret ⟨?_,rfl,rfl,Nat.zero_le _,_,rfl⟩
  rw [h2,List.take_of_length_le (by omega)];rfl
def pairsL (x:List (List Acc)):List Sta:=(stations x).filter (isPair x)
theorem pairs1_ok (x:List (List Acc)) (s:Sta) (hx:Small x) (L:List D):ACall P 116 [.d (dSta s),.ptr 0 0] [.cells [.d (dX x)],.arr 3 L] (AB (!isPair x s)) [.cells [.d (dX x)],.arr 3 L]:=by
 have cp:=isPair_ok x s hx
 obtain ⟨t,a,b⟩:=s
 unfold dSta at *
 dsimp only at *
 obtain ⟨X,hX⟩ : ∃ X,dX x=X:=⟨_,rfl⟩
 obtain ⟨r,hr⟩ : ∃ r,isPair x (t,a,b)=r:=⟨_,rfl⟩
 rw [hX] at cp ⊢
 rw [hr] at cp ⊢
 have hin:objsInb 2 [.cells [.d X],.arr 3 L]=true:=rfl
 refine ACall.enter hT (fn:=Try.f116) Try.func116 rfl (by decide) (by simp [Try.f116]) rfl rfl rfl hin (Nat.le_refl _) ?_
 repeat refine AWp.seq ?_
 refine AWp.reg1 {} hT (fun A hA=>by cbv) (Nat.le_of_ble_eq_true rfl) ?_
 try dsimp only [AExit.then,AExit.block]
 repeat refine AWp.seq ?_
 refine AWp.region ?_
 refine AOps.stepCall hT (an:={}) (fun A hA=>by cbv) (Nat.le_of_ble_eq_true rfl) rfl (.inr rfl) rfl rfl rfl (Nat.le_of_ble_eq_true rfl) rfl rfl (cp) ?_
 refine AOps.done hT (an:={}) (fun A hA=>by cbv) (Nat.le_of_ble_eq_true rfl) ?_
 try dsimp only [AExit.then,AExit.block]
 refine AWp.ret ⟨rfl,rfl,hin,Nat.le_refl _,[],by simp⟩
theorem index98e (f:FuncId) (bs:List AV) (H:List Obj) (hin:objsInb H.length H=true) (hbs:inbL H.length bs=true) (hbf:bs.all AV.free=true) :
  ACall P 122 [.d (.list 3 []),.func f [] bs] H (AI (-1)) H:=by
 have h0 : ¬ (0:Int)<0:=by omega
 refine ACall.enter hT (fn:=Try.f122) Try.func122 rfl (by decide) (by simp [Try.f122]) rfl rfl rfl hin (Nat.le_refl _) ?_
 repeat refine AWp.seq ?_
 refine AWp.reg1 {} hT (fun A hA=>by cbv) (Nat.le_refl _) ?_
 try dsimp only [AExit.then,AExit.block]
 repeat refine AWp.seq ?_
 refine AWp.reg1 {} hT (fun A hA=>by
   have f0:=ar_len hA [] 0 rfl
   repeat (cbv;simp only [f0])
   cbv) (Nat.le_refl _) ?_
 try dsimp only [AExit.then,AExit.block]
 refine AWp.block (AWp.loopInv (ι:=Int) (fun z=>z=0) (fun z=>0) [0,1,6,7,8]
  (fun z=>{ env:=[(0,.d (.list 3 [])),(1,.func f [] bs),(6,.d (.list 3 [])),(7,AI 0),(8,AI 0)],heap:=H,n:=19 }) 0 (by cbv) rfl ?_)
 rintro z rfl
 repeat refine AWp.seq ?_
 refine AWp.reg1 {} hT (fun A hA=>by
   have f0:=ar_nlt hA h0
   repeat (cbv;simp only [f0])
   cbv) (Nat.le_refl _) ?_
 try dsimp only [AExit.then,AExit.block]
 repeat refine AWp.seq ?_
 refine AWp.cond (b:=false) rfl (AWp.exit ?_)
 try dsimp only [AExit.then,AExit.block]
 rw [if_pos rfl]
 repeat refine AWp.seq ?_
 refine AWp.reg1 {} hT (fun A hA=>by cbv) (Nat.le_refl _) ?_
 try dsimp only [AExit.then,AExit.block]
 refine AWp.ret ⟨rfl,rfl,hin,Nat.le_refl _,[],by simp⟩
theorem delete98e (f:FuncId) (bs:List AV) (H:List Obj) (hin:objsInb H.length H=true) (hbs:inbL H.length bs=true) (hbf:bs.all AV.free=true) :
  ACall P 86 [.d (.list 3 []),.func f [] bs] H (.d (.list 3 [])) H:=by
 have hix:=index98e f bs H hin hbs hbf
 refine ACall.enter hT (fn:=Try.f86) Try.func86 rfl (by decide) (by simp [Try.f86]) rfl rfl rfl hin (Nat.le_refl _) ?_
 repeat refine AWp.seq ?_
 refine AWp.reg1 {} hT (fun A hA=>by cbv) (Nat.le_refl _) ?_
 try dsimp only [AExit.then,AExit.block]
 repeat refine AWp.seq ?_
 refine AWp.region ?_
 refine AOps.stepCallW hT (an:={}) (fun A hA=>by cbv) (Nat.le_refl _) (by first | rfl | exact hin) (by first | rfl | simp [inbL,AV.inb,hbs]) rfl (Nat.le_of_ble_eq_true rfl) rfl (by first | rfl | simp [AV.free,hbf]) (hix) ?_
 refine AOps.done hT (an:={}) (fun A hA=>by cbv) (Nat.le_refl _) ?_
 try dsimp only [AExit.then,AExit.block]
 repeat refine AWp.seq ?_
 refine AWp.reg1 {} hT (fun A hA=>by
   have f0:=ar_eq hA (rfl:(-1:Int) = -1)
   repeat (cbv;simp only [f0])
   cbv) (Nat.le_refl _) ?_
 try dsimp only [AExit.then,AExit.block]
 repeat refine AWp.seq ?_
 refine AWp.cond (b:=true) rfl ?_
 rw [if_pos rfl]
 repeat refine AWp.seq ?_
 refine AWp.reg1 {} hT (fun A hA=>by cbv) (Nat.le_refl _) ?_
 try dsimp only [AExit.then,AExit.block]
 refine AWp.ret ⟨rfl,rfl,hin,Nat.le_refl _,[],by simp⟩
theorem scalars_dSta (l:List Sta):scalars (l.map dSta)=true:=by
 simp [scalars,dSta,D.cells,D.scalar]
theorem std_sub0 (Y:List D) (m:Int) (h0:0<=m):Ar.std.sub Y 0 (0+m)=Y.take m.toNat:=by
 simp [Ar.std]
theorem pairs_ok (x:List (List Acc)) (hx:Small x) (hlen:(stations x).length<=4000000000):ACall P 73 [.d (dX x)] [] (.d (.list 3 ((pairsL x).map dSta))) []:=by
 have cst:=stations_ok x hx
 have hcl:=fun s L=>pairs1_ok x s hx L
 obtain ⟨p,hp⟩ : ∃ p,isPair x=p:=⟨_,rfl⟩
 obtain ⟨l,hl⟩ : ∃ l,stations x=l:=⟨_,rfl⟩
 unfold pairsL
 rw [hl] at cst hlen ⊢
 rw [hp] at hcl ⊢
 obtain ⟨X,hX⟩ : ∃ X,dX x=X:=⟨_,rfl⟩
 rw [hX] at cst hcl ⊢
 have hX2 : ∃ k Z,X = .list k Z:=⟨_,_,by rw [<-hX];rfl⟩
 obtain ⟨kx,Z,rfl⟩:=hX2
 by_cases he:l=[]
 ·subst he
  have hde:=delete98e 116 [.ptr 0 0] [.cells [.d (.list kx Z)]] rfl rfl rfl
  simp only [List.map_nil,List.filter_nil] at cst ⊢
  refine ACall.enter hT (fn:=Try.f73) Try.func73 rfl (by decide) (by simp [Try.f73]) rfl rfl rfl rfl (Nat.le_refl _) ?_
  repeat refine AWp.seq ?_
  refine AWp.reg1 {esc:=[1]} hT (fun A hA=>by cbv) (Nat.zero_le _) ?_
  try dsimp only [AExit.then,AExit.block]
  repeat refine AWp.seq ?_
  refine AWp.region ?_
  refine AOps.stepCall hT (an:={}) (fun A hA=>by cbv) (Nat.zero_le _) rfl (.inr rfl) rfl rfl rfl (Nat.le_of_ble_eq_true rfl) rfl rfl (cst) ?_
  refine AOps.stepCallW hT (an:={}) (fun A hA=>by cbv) (Nat.zero_le _) (by first | rfl | exact hin) (by first | rfl | simp [inbL,AV.inb,hbs]) rfl (Nat.le_of_ble_eq_true rfl) rfl (by first | rfl | simp [AV.free,hbf]) (hde) ?_
  refine AOps.done hT (an:={}) (fun A hA=>by cbv) (Nat.zero_le _) ?_
  try dsimp only [AExit.then,AExit.block]
  refine AWp.ret ⟨rfl,rfl,rfl,Nat.zero_le _,_,rfl⟩
 ·obtain ⟨n,hn⟩ : ∃ n:Int,(l.length:Int)=n:=⟨_,rfl⟩
  obtain ⟨m,Y,hm0,hm1,hY,hde⟩:=delete98m l 116 [.ptr 0 0] (.cells [.d (.list kx Z)]) (fun s => !p s) rfl rfl rfl n hn (by omega) (fun s _ L=>hcl s L)
  have hY':Ar.std.sub Y 0 (0+m)=(l.filter p).map dSta:=by
   rw [std_sub0 _ _ hm0,hY];simp
  have cth:=ACall.thaw cst rfl rfl (by simpa using he) (scalars_dSta l) (H:=[.cells [.d (.list kx Z)]]) rfl (n:=n) (by simpa using hn)
  obtain ⟨L,hL⟩ : ∃ L,l.map dSta=L:=⟨_,rfl⟩
  obtain ⟨R,hR⟩ : ∃ R,(l.filter p).map dSta=R:=⟨_,rfl⟩
  rw [hL] at cth hde
  rw [hR] at hY' ⊢
  refine ACall.enter hT (fn:=Try.f73) Try.func73 rfl (by decide) (by simp [Try.f73]) rfl rfl rfl rfl (Nat.le_refl _) ?_
  repeat refine AWp.seq ?_
  refine AWp.reg1 {esc:=[1]} hT (fun A hA=>by cbv) (Nat.zero_le _) ?_
  try dsimp only [AExit.then,AExit.block]
  repeat refine AWp.seq ?_
  refine AWp.region ?_
  refine AOps.stepCallW hT (an:={}) (fun A hA=>by cbv) (Nat.zero_le _) (by first | rfl | exact hin) (by first | rfl | simp [inbL,AV.inb,hbs]) rfl (Nat.le_of_ble_eq_true rfl) rfl (by first | rfl | simp [AV.free,hbf]) (cth) ?_
  refine AOps.stepCallW hT (an:={}) (fun A hA=>by cbv) (Nat.zero_le _) (by first | rfl | exact hin) (by first | rfl | simp [inbL,AV.inb,hbs]) rfl (Nat.le_of_ble_eq_true rfl) rfl (by first | rfl | simp [AV.free,hbf]) (hde) ?_
  refine AOps.done hT (an:={}) (fun A hA=>by cbv) (Nat.zero_le _) ?_
  try dsimp only [AExit.then,AExit.block]
  refine AWp.freeze (s:=2) (i:=1) (k:=3) (lo:=0) (n:=m) (l:=Y) (l':=R) rfl rfl (by omega) hY' ?_
  refine AWp.ret ⟨rfl,rfl,rfl,Nat.zero_le _,_,rfl⟩
end Go.Am

namespace Go.Am
open Go Go.Proofs
def runY {S:Type} (step:S->List Sta->S×Bool):S->List (List Sta)->S×Bool
 | s,[]=>(s,true)
 | s,l::r=>if (step s l).2 then runY step (step s l).1 r else ((step s l).1,false)
theorem runY_append {S:Type} (step:S->List Sta->S×Bool) : ∀ (s:S) (a b:List (List Sta)),runY step s (a++b)=if (runY step s a).2 then runY step (runY step s a).1 b else runY step s a
 | s,[],b=>by simp [runY]
 | s,l::r,b=>by
   simp only [List.cons_append,runY]
   split
   ·exact runY_append step _ r b
   ·simp
def lastOf (l:List Sta):Sta:=l.getD (l.length-1) (0,0,0)
def nextOk (x:List (List Acc)) (l:List Sta) (st:Sta):Bool:=decide (l.length=0)||conflict x (lastOf l).1 (lastOf l).2.2 st.1 st.2.1
def circHere (x:List (List Acc)) (l:List Sta):List (List Sta):=if decide (2<=l.length)&&isCircle x l then [l] else []
def circFrom (x:List (List Acc)) (all:List Sta):Nat->List Sta->List (List Sta)
 | 0,l=>circHere x l
 | k+1,l=>circHere x l++all.flatMap fun st=>if nextOk x l st then circFrom x all k (l++[st]) else []
theorem ar_fits' {A:Ar} (hA:A=Ar.std) (n:Int) (m:List D) (h:n+m.length<4294967296):A.fits (A.zadd n (A.len m))=true:=by
 subst hA;simp only [Ar.std];simp;omega
def heapC (X:D) (A B:Obj) (LA:List D):List Obj:=[A,B,.cells [.d X],.cells [.yield 1],.cells [.d (.list 3 LA)],.cells [.func 110 [] [.ptr 2 0,.ptr 3 0,.ptr 4 0,.ptr 5 0]]]
theorem grow_ok {S:Type} (A B:S->Obj) (hAB : ∀ s k,2<=k->(A s).inbG k=true/\(B s).inbG k=true) (step:S->List Sta->S×Bool) (x:List (List Acc)) (hx:Small x) (all:List Sta) (hall : ∀ s∈all,isThere x s=true) (halln:all.length<=1000000000000)
  (hy : ∀ s l,l.length<=3->YCall P 1 [.d (.list 3 (l.map dSta))] [A s,B s] (AB (step s l).2) [A (step s l).1,B (step s l).1]) :
  ∀ (k:Nat) (l:List Sta) (s:S),l.length+k=3->(∀ u∈l,isThere x u=true) ->
    ACall P 110 [.d (.list 3 (l.map dSta)),.ptr 2 0,.ptr 3 0,.ptr 4 0,.ptr 5 0] (heapC (dX x) (A s) (B s) (all.map dSta)) (AB (runY step s (circFrom x all k l)).2)
     (heapC (dX x) (A (runY step s (circFrom x all k l)).1) (B (runY step s (circFrom x all k l)).1) (all.map dSta)):=by
 intro k
 induction k with
 | zero =>
   intro l s hlk hlt
   have ci:=isCircle_ok x hx l (by omega) hlt
   have hys:=hy s l (by omega)
   have hrun:runY step s (circFrom x all 0 l)=if isCircle x l then step s l else (s,true):=by
    unfold circFrom circHere
    rw [show decide (2<=l.length)=true by simp;omega]
    cases isCircle x l
    ·rfl
    ·cases h:step s l with | mk s' b=>cases b <;> simp [runY,h]
   rw [hrun]
   obtain ⟨X,hX⟩ : ∃ X,dX x=X:=⟨_,rfl⟩
   obtain ⟨L,hL⟩ : ∃ L,l.map dSta=L:=⟨_,rfl⟩
   obtain ⟨LA,hLA⟩ : ∃ L,all.map dSta=L:=⟨_,rfl⟩
   have hn:(L.length:Int)=3:=by rw [<-hL];simp;omega
   obtain ⟨ic,hic⟩ : ∃ b,isCircle x l=b:=⟨_,rfl⟩
   obtain ⟨⟨s',b'⟩,hst⟩ : ∃ p,step s l=p:=⟨_,rfl⟩
   rw [hst] at hys
   rw [hX,hL,hic] at ci
   rw [hL] at hys
   rw [hX,hL,hLA,hic,hst]
   dsimp only at hys
   have hin : ∀ s,objsInb (heapC X (A s) (B s) LA).length (heapC X (A s) (B s) LA)=true:=fun s=>by
    have h1:=(hAB s 6 (by omega)).1
    have h2:=(hAB s 6 (by omega)).2
    exact objsG h1 (objsG h2 rfl)
   refine ACall.enter hT (fn:=Try.f110) Try.func110 rfl (by decide) (by simp [Try.f110]) rfl rfl rfl (by cases ic <;> exact hin _) (by cases ic <;> exact Nat.le_refl _) ?_
   unfold heapC at *
   have hAs:=fun s=>(hAB s 2 (Nat.le_refl _)).1
   have hBs:=fun s=>(hAB s 2 (Nat.le_refl _)).2
   have hin2 : ∀ s,objsInb [A s,B s].length [A s,B s]=true:=fun s=>objsG (hAs s) (objsG (hBs s) rfl)
   repeat refine AWp.seq ?_
   refine AWp.reg1 {} hT (fun A hA=>by cbv) (Nat.le_refl _) ?_
   try dsimp only [AExit.then,AExit.block]
   repeat refine AWp.seq ?_
   refine AWp.region ?_
   refine AOps.stepCall hT (an:={}) (fun A hA=>by
     have f0:=ar_len hA L 3 hn
     have f1:=ar_le hA (show (2:Int)<=3 by omega)
     repeat (cbv;simp only [f0,f1])
     cbv) (Nat.le_refl _) rfl (.inr rfl) rfl rfl rfl (Nat.le_of_ble_eq_true rfl) rfl rfl (ci) ?_
   cases ic with
   | false =>
     refine AOps.done hT (an:={}) (fun A hA=>by cbv) (Nat.le_refl _) ?_
     try dsimp only [AExit.then,AExit.block]
     repeat refine AWp.seq ?_
     refine AWp.cond (b:=false) rfl (AWp.skip ?_)
     try dsimp only [AExit.then,AExit.block]
     repeat refine AWp.seq ?_
     refine AWp.reg1 {} hT (fun A hA=>by
       have f0:=ar_len hA L 3 hn
       have f1:=ar_eq hA (show (3:Int)=3 by omega)
       repeat (cbv;simp only [f0,f1])
       cbv) (Nat.le_refl _) ?_
     try dsimp only [AExit.then,AExit.block]
     repeat refine AWp.seq ?_
     refine AWp.cond (b:=true) rfl ?_
     rw [if_pos rfl]
     repeat refine AWp.seq ?_
     refine AWp.reg1 {} hT (fun A hA=>by cbv) (Nat.le_refl _) ?_
     try dsimp only [AExit.then,AExit.block]
     refine AWp.ret ⟨rfl,rfl,hin _,Nat.le_refl _,[],rfl⟩
   | true =>
     refine AOps.stepY hT (an:={}) (H:=[A s,B s]) (H':=[A s',B s']) (fun A hA=>by cbv) (Nat.le_refl _) rfl (.inr rfl) (hin2 s) rfl rfl (Nat.le_of_ble_eq_true rfl) rfl rfl hys ?_
     cases b' with
     | true =>
       refine AOps.done hT (an:={}) (fun A hA=>by cbv) (Nat.le_refl _) ?_
       try dsimp only [AExit.then,AExit.block]
       repeat refine AWp.seq ?_
       refine AWp.cond (b:=false) rfl (AWp.skip ?_)
       try dsimp only [AExit.then,AExit.block]
       repeat refine AWp.seq ?_
       refine AWp.reg1 {} hT (fun A hA=>by
         have f0:=ar_len hA L 3 hn
         have f1:=ar_eq hA (show (3:Int)=3 by omega)
         repeat (cbv;simp only [f0,f1])
         cbv) (Nat.le_refl _) ?_
       try dsimp only [AExit.then,AExit.block]
       repeat refine AWp.seq ?_
       refine AWp.cond (b:=true) rfl ?_
       rw [if_pos rfl]
       repeat refine AWp.seq ?_
       refine AWp.reg1 {} hT (fun A hA=>by cbv) (Nat.le_refl _) ?_
       try dsimp only [AExit.then,AExit.block]
       refine AWp.ret ⟨rfl,rfl,hin _,Nat.le_refl _,[],rfl⟩
     | false =>
       refine AOps.done hT (an:={}) (fun A hA=>by cbv) (Nat.le_refl _) ?_
       try dsimp only [AExit.then,AExit.block]
       repeat refine AWp.seq ?_
       refine AWp.cond (b:=true) rfl ?_
       rw [if_pos rfl]
       repeat refine AWp.seq ?_
       refine AWp.reg1 {} hT (fun A hA=>by cbv) (Nat.le_refl _) ?_
       try dsimp only [AExit.then,AExit.block]
       refine AWp.ret ⟨rfl,rfl,hin _,Nat.le_refl _,[],rfl⟩
 | succ k ih =>
   intro l s hlk hlt
   have ci:=isCircle_ok x hx l (by omega) hlt
   have hys:=hy s l (by omega)
   obtain ⟨Gn,hGn⟩ : ∃ Gn:Sta->List (List Sta),Gn=fun st=>if nextOk x l st then circFrom x all k (l++[st]) else []:=⟨_,rfl⟩
   have hrun:runY step s (circFrom x all (k+1) l)=if (runY step s (circHere x l)).2 then runY step (runY step s (circHere x l)).1 (all.flatMap Gn) else runY step s (circHere x l):=by
    rw [hGn];exact runY_append _ _ _ _
   have hhere:runY step s (circHere x l)=if decide (2<=l.length)&&isCircle x l then step s l else (s,true):=by
    unfold circHere
    split
    ·cases h:step s l with | mk s' b=>cases b <;> simp [runY,h]
    ·rfl
   have hG : ∀ st,Gn st=if nextOk x l st then circFrom x all k (l++[st]) else []:=fun st=>by rw [hGn]
   have hnx : ∀ st,nextOk x l st=(decide (l.length=0)||conflict x (lastOf l).1 (lastOf l).2.2 st.1 st.2.1):=fun st=>rfl
   have ih' : ∀ (s:S) (st:Sta),st∈all->ACall P 110 [.d (.list 3 (l.map dSta++[dSta st])),.ptr 2 0,.ptr 3 0,.ptr 4 0,.ptr 5 0] (heapC (dX x) (A s) (B s) (all.map dSta)) (AB (runY step s (circFrom x all k (l++[st]))).2)
     (heapC (dX x) (A (runY step s (circFrom x all k (l++[st]))).1) (B (runY step s (circFrom x all k (l++[st]))).1) (all.map dSta)):=fun s st hst=>by
    have:=ih (l++[st]) s (by simp;omega) (fun u hu=>by
     rcases List.mem_append.1 hu with h | h
     ·exact hlt u h
     ·simp at h;subst h;exact hall u hst)
    rwa [List.map_append] at this
   have hlast:l.length≠0->lastOf l∈l/\l[l.length-1]?=some (lastOf l):=fun h=>by
    have h1:l.length-1<l.length:=by omega
    have h2:l[l.length-1]?=some (lastOf l):=by unfold lastOf;rw [List.getD_eq_getElem?_getD,zp1 h1];rfl
    exact ⟨List.mem_of_getElem? h2,h2⟩
   have hconf : ∀ u,isThere x u=true -> ∀ v,isThere x v=true->ACall P 63 [.d (dX x),.d (.agg [I u.1,I u.2.2]),.d (.agg [I v.1,I v.2.1])] [] (AB (conflict x u.1 u.2.2 v.1 v.2.1)) []:=fun u hu v hv =>
    conflict_ok x _ _ _ _ (by unfold isThere at hu;simp at hu;exact hu.2) (by unfold isThere at hv;simp at hv;exact hv.1)
   rw [hrun]
   generalize hres:runY step s (circHere x l)=res at *
   obtain ⟨X,hX⟩ : ∃ X,dX x=X:=⟨_,rfl⟩
   obtain ⟨L,hL⟩ : ∃ L,l.map dSta=L:=⟨_,rfl⟩
   obtain ⟨LA,hLA⟩ : ∃ L,all.map dSta=L:=⟨_,rfl⟩
   obtain ⟨n,hn⟩ : ∃ n:Int,(L.length:Int)=n:=⟨_,rfl⟩
   have hln:(l.length:Int)=n:=by rw [<-hn,<-hL];simp
   obtain ⟨N,hN⟩ : ∃ n:Int,(LA.length:Int)=n:=⟨_,rfl⟩
   have hlN:(all.length:Int)=N:=by rw [<-hN,<-hLA];simp
   obtain ⟨ic,hic⟩ : ∃ b,isCircle x l=b:=⟨_,rfl⟩
   obtain ⟨⟨s',b'⟩,hst⟩ : ∃ p,step s l=p:=⟨_,rfl⟩
   rw [hst] at hys hhere
   rw [hX,hL,hic] at ci
   rw [hic] at hhere
   rw [hL] at hys
   rw [hX,hL,hLA] at ih' ⊢
   simp only [hX] at hconf
   dsimp only at hys
   have hin : ∀ s,objsInb (heapC X (A s) (B s) LA).length (heapC X (A s) (B s) LA)=true:=fun s=>by
    have h1:=(hAB s 6 (by omega)).1
    have h2:=(hAB s 6 (by omega)).2
    exact objsG h1 (objsG h2 rfl)
   have hin2 : ∀ s,objsInb [A s,B s].length [A s,B s]=true:=fun s=>by
    have h1:=(hAB s 2 (by omega)).1
    have h2:=(hAB s 2 (by omega)).2
    exact objsG h1 (objsG h2 rfl)
   obtain ⟨⟨fs,fb⟩,hfin⟩ : ∃ p,(if res.2 then runY step res.1 (all.flatMap Gn) else res)=p:=⟨_,rfl⟩
   rw [hfin]
   refine ACall.enter hT (fn:=Try.f110) Try.func110 rfl (by decide) (by simp [Try.f110]) rfl rfl rfl (hin _) (Nat.le_refl _) ?_
   unfold heapC at *
   repeat refine AWp.seq ?_
   refine AWp.reg1 {} hT (fun A hA=>by cbv) (Nat.le_of_ble_eq_true rfl) ?_
   try dsimp only [AExit.then,AExit.block]
   refine AWp.cut (fun σ' => ∃ s1,res=(s1,true)/\σ'.keep [0,1,2,3,4]={ env:=[(0,.d (.list 3 L)),(1,.ptr 2 0),(2,.ptr 3 0),(3,.ptr 4 0),(4,.ptr 5 0)],heap:=heapC X (A s1) (B s1) LA,n:=62 }) ?_ ?_
   ·unfold heapC
    by_cases h2:2<=n
    ·rw [show decide (2<=l.length)=true by simp;omega] at hhere
     repeat refine AWp.seq ?_
     refine AWp.region ?_
     refine AOps.stepCall hT (an:={}) (fun A hA=>by
       have f0:=ar_len hA L n hn
       have f1:=ar_le hA h2
       repeat (cbv;simp only [f0,f1])
       cbv) (Nat.le_of_ble_eq_true rfl) rfl (.inr rfl) rfl rfl rfl (Nat.le_of_ble_eq_true rfl) rfl rfl (ci) ?_
     cases ic with
     | false =>
       refine AOps.done hT (an:={}) (fun A hA=>by cbv) (Nat.le_of_ble_eq_true rfl) ?_
       try dsimp only [AExit.then,AExit.block]
       repeat refine AWp.seq ?_
       refine AWp.cond (b:=false) rfl (AWp.skip ?_)
       try dsimp only [AExit.then,AExit.block]
       exact ⟨s,hhere,by cbv⟩
     | true =>
       refine AOps.stepY hT (an:={}) (H:=[A s,B s]) (H':=[A s',B s']) (fun A hA=>by cbv) (Nat.le_refl _) rfl (.inr rfl) (hin2 s) rfl rfl (Nat.le_of_ble_eq_true rfl) rfl rfl hys ?_
       cases b' with
       | true =>
         refine AOps.done hT (an:={}) (fun A hA=>by cbv) (Nat.le_of_ble_eq_true rfl) ?_
         try dsimp only [AExit.then,AExit.block]
         repeat refine AWp.seq ?_
         refine AWp.cond (b:=false) rfl (AWp.skip ?_)
         try dsimp only [AExit.then,AExit.block]
         exact ⟨s',hhere,by cbv⟩
       | false =>
         refine AOps.done hT (an:={}) (fun A hA=>by cbv) (Nat.le_of_ble_eq_true rfl) ?_
         try dsimp only [AExit.then,AExit.block]
         repeat refine AWp.seq ?_
         refine AWp.cond (b:=true) rfl ?_
         rw [if_pos rfl]
         repeat refine AWp.seq ?_
         refine AWp.reg1 {} hT (fun A hA=>by cbv) (Nat.le_of_ble_eq_true rfl) ?_
         try dsimp only [AExit.then,AExit.block]
         have:(fs,fb)=(s',false):=by rw [<-hfin,hhere];rfl
         injection this with e1 e2;subst e1 e2
         refine AWp.ret ⟨rfl,rfl,hin _,Nat.le_refl _,[],rfl⟩
    ·rw [show decide (2<=l.length)=false by simp;omega] at hhere
     repeat refine AWp.seq ?_
     refine AWp.reg1 {} hT (fun A hA=>by
       have f0:=ar_len hA L n hn
       have f1:=ar_nle hA h2
       repeat (cbv;simp only [f0,f1])
       cbv) (Nat.le_of_ble_eq_true rfl) ?_
     try dsimp only [AExit.then,AExit.block]
     repeat refine AWp.seq ?_
     refine AWp.cond (b:=false) rfl (AWp.skip ?_)
     try dsimp only [AExit.then,AExit.block]
     exact ⟨s,hhere,by cbv⟩
   ·rintro σ1 ⟨s1,hs1,hσ1⟩
    refine AWp.keep [0,1,2,3,4] ?_
    rw [hσ1]
    unfold heapC
    rw [hs1] at hfin
    simp only [if_true] at hfin
    repeat refine AWp.seq ?_
    refine AWp.reg1 {} hT (fun A hA=>by
      have f0:=ar_len hA L n hn
      have f1:=ar_ne hA (show ¬ n=3 by omega)
      repeat (cbv;simp only [f0,f1])
      cbv) (Nat.le_of_ble_eq_true rfl) ?_
    try dsimp only [AExit.then,AExit.block]
    repeat refine AWp.seq ?_
    refine AWp.cond (b:=false) rfl (AWp.skip ?_)
    try dsimp only [AExit.then,AExit.block]
    repeat refine AWp.seq ?_
    refine AWp.reg1 {} hT (fun A hA=>by
      have f0:=ar_len hA LA N hN
      repeat (cbv;simp only [f0])
      cbv) (Nat.le_of_ble_eq_true rfl) ?_
    try dsimp only [AExit.then,AExit.block]
    refine AWp.block (AWp.loopH (ι:=Int×S) (fun p=>0<=p.1/\p.1<=N/\runY step s1 ((all.take p.1.toNat).flatMap Gn)=(p.2,true)) (fun p=>(N-p.1).toNat) [0,1,2,3,4,26,27,28] 6
     (fun p=>{ env:=[(0,.d (.list 3 L)),(1,.ptr 2 0),(2,.ptr 3 0),(3,.ptr 4 0),(4,.ptr 5 0),(26,.d (.list 3 LA)),(27,AI N),(28,AI p.1)],heap:=heapC X (A p.2) (B p.2) LA,n:=62 }) (0,s1) (Nat.le_refl _) (by exact hin s1) (by cbv) ⟨Int.le_refl _,by omega,by simp [runY]⟩ ?_)
    rintro ⟨z,s2⟩ ⟨h0,h1,hr⟩
    dsimp only at *
    unfold heapC
    by_cases hz:z<N
    ·obtain ⟨⟨t,a,b⟩,hs⟩ : ∃ s,all[z.toNat]?=some s:=⟨_,zp1 (by omega)⟩
     have hLz:LA[z.toNat]?=some (.agg [I t,I a,I b]):=by rw [<-hLA,List.getElem?_map,hs];rfl
     obtain ⟨z1,hz1⟩ : ∃ z1,z+1=z1:=⟨_,rfl⟩
     have hz1n:z1.toNat=z.toNat+1:=by omega
     have hmem:=List.mem_of_getElem? hs
     have hnext:(all.take z1.toNat).flatMap Gn=(all.take z.toNat).flatMap Gn++Gn (t,a,b):=by
      rw [hz1n,List.take_add_one,hs];simp
     have hwhole:all.flatMap Gn=(all.take z.toNat).flatMap Gn++(Gn (t,a,b)++(all.drop z1.toNat).flatMap Gn):=by
      rw [<-List.append_assoc,<-hnext,<-List.flatMap_append,List.take_append_drop]
     repeat refine AWp.seq ?_
     refine AWp.reg1 {} hT (fun A hA=>by
       have f0:=ar_lt hA hz
       repeat (cbv;simp only [f0])
       cbv) (Nat.le_of_ble_eq_true rfl) ?_
     try dsimp only [AExit.then,AExit.block]
     repeat refine AWp.seq ?_
     refine AWp.cond (b:=true) rfl (AWp.skip ?_)
     try dsimp only [AExit.then,AExit.block]
     repeat refine AWp.seq ?_
     refine AWp.block ?_
     repeat refine AWp.seq ?_
     refine AWp.reg1 {esc:=[8]} hT (fun A hA=>by
       have f0:=ar_get hA hLz
       have f1:=ar_le hA h0
       repeat (cbv;simp only [f0,f1])
       cbv) (Nat.le_of_ble_eq_true rfl) ?_
     try dsimp only [AExit.then,AExit.block]
     refine AWp.cut (fun σ'=>nextOk x l (t,a,b)=true/\σ'.keep [0,1,2,3,4,8,26,27,28]={ env:=[(0,.d (.list 3 L)),(1,.ptr 2 0),(2,.ptr 3 0),(3,.ptr 4 0),(4,.ptr 5 0),(8,.ptr 6 0),(26,.d (.list 3 LA)),(27,AI N),(28,AI z)],heap:=heapC X (A s2) (B s2) LA++[.cells [AI t,AI a,AI b]],n:=62 }) ?_ ?_
     ·have hnxt:=hnx (t,a,b)
      by_cases hn0:n=0
      ·rw [show decide (l.length=0)=true from decide_eq_true (by omega)] at hnxt
       repeat refine AWp.seq ?_
       refine AWp.reg1D {} hT rfl (fun A hA=>by
         have f0:=ar_len hA L n hn
         have f1:=ar_nlt hA (show ¬ 0<n by omega)
         repeat (cbv;simp only [f0,f1])
         cbv) (by kernel_rfl) (Nat.le_of_ble_eq_true rfl) ?_
       try dsimp only [AExit.then,AExit.block]
       repeat refine AWp.seq ?_
       refine AWp.cond (b:=false) rfl (AWp.skip ?_)
       try dsimp only [AExit.then,AExit.block]
       exact ⟨hnxt,by cbv⟩
      ·obtain ⟨hl1,hl2⟩:=hlast (by omega)
       have hcc:=hconf _ (hlt _ hl1) _ (hall _ hmem)
       rw [show decide (l.length=0)=false from decide_eq_false (by omega),Bool.false_or] at hnxt
       obtain ⟨⟨t',a',b'⟩,hlst⟩ : ∃ s,lastOf l=s:=⟨_,rfl⟩
       rw [hlst] at hl2 hcc hnxt
       dsimp only at hcc hnxt
       obtain ⟨r,hr'⟩ : ∃ r,conflict x t' b' t a=r:=⟨_,rfl⟩
       rw [hr'] at hcc hnxt
       obtain ⟨n1,hn1⟩ : ∃ n1,n-1=n1:=⟨_,rfl⟩
       have hLl:L[n1.toNat]?=some (.agg [I t',I a',I b']):=by rw [<-hL,List.getElem?_map,show n1.toNat=l.length-1 by omega,hl2];rfl
       repeat refine AWp.seq ?_
       refine AWp.regionDraw rfl (Nat.le_of_ble_eq_true rfl) ?_
       refine DOps.stepCall hT (an:={}) rfl (fun A hA=>by
         have f0:=ar_len hA L n hn
         have f1:=ar_lt hA (show 0<n by omega)
         have f2:=ar_sub hA n 1 n1 hn1 (by omega) (by omega)
         have f3:=ar_get hA hLl
         have f4:=ar_le hA (show 0<=n1 by omega)
         repeat (cbv;simp only [f0,f1,f2,f3,f4])
         cbv) rfl rfl (Nat.le_of_ble_eq_true rfl) rfl rfl (out_ok t' a' b') ?_
       refine DOps.stepCall hT (an:={}) rfl (fun A hA=>by cbv) rfl rfl (Nat.le_of_ble_eq_true rfl) rfl rfl (in_ok t a b) ?_
       refine DOps.stepCall hT (an:={}) rfl (fun A hA=>by cbv) rfl rfl (Nat.le_of_ble_eq_true rfl) rfl rfl (hcc) ?_
       cases r with
       | true =>
         refine DOps.done hT (an:={}) rfl (fun A hA=>by cbv) (by kernel_rfl) ?_
         try dsimp only [AExit.then,AExit.block]
         repeat refine AWp.seq ?_
         refine AWp.cond (b:=false) rfl (AWp.skip ?_)
         try dsimp only [AExit.then,AExit.block]
         exact ⟨hnxt,by cbv⟩
       | false =>
         refine DOps.done hT (an:={}) rfl (fun A hA=>by cbv) (by kernel_rfl) ?_
         try dsimp only [AExit.then,AExit.block]
         repeat refine AWp.seq ?_
         refine AWp.cond (b:=true) rfl ?_
         rw [if_pos rfl]
         refine AWp.exit ?_
         dsimp only [AExit.then,AExit.block]
         rw [if_pos rfl]
         have hGt:Gn (t,a,b)=[]:=by rw [hG,hnxt];rfl
         repeat refine AWp.seq ?_
         refine AWp.reg1 {} hT (fun A hA=>by
           have f0:=ar_add hA z 1 z1 hz1 (by omega) (by omega)
           repeat (cbv;simp only [f0])
           cbv) (Nat.le_of_ble_eq_true rfl) ?_
         try dsimp only [AExit.then,AExit.block]
         exact ⟨by exact hin s2,(z1,s2),⟨by dsimp only;omega,by dsimp only;omega,by dsimp only;rw [hnext,hGt,List.append_nil];exact hr⟩,by dsimp only;omega,by cbv⟩
     ·rintro σ2 ⟨hok,hσ2⟩
      refine AWp.keep [0,1,2,3,4,8,26,27,28] ?_
      rw [hσ2]
      unfold heapC
      have hGt:=hG (t,a,b)
      rw [hok,if_pos rfl] at hGt
      have hcall:=ih' s2 (t,a,b) hmem
      rw [<-hGt] at hcall
      obtain ⟨⟨s3,b3⟩,h3⟩ : ∃ p,runY step s2 (Gn (t,a,b))=p:=⟨_,rfl⟩
      rw [h3] at hcall
      unfold dSta at hcall
      dsimp only at hcall
      obtain ⟨L3,hL3⟩ : ∃ L3,L++[.agg [I t,I a,I b]]=L3:=⟨_,rfl⟩
      rw [hL3] at hcall
      have hsub : ∀ A:Ar,A=Ar.std->A.sub L 0 n=L:=fun A hA=>by subst hA;show (L.drop (0:Int).toNat).take (n.toNat-(0:Int).toNat)=L;exact List.take_of_length_le (by simp;omega)
      have hr2:runY step s1 ((all.take z1.toNat).flatMap Gn)=(s3,b3):=by rw [hnext,runY_append,hr];exact h3
      repeat refine AWp.seq ?_
      refine AWp.regionDraw rfl (Nat.le_of_ble_eq_true rfl) ?_
      refine DOps.stepCallH hT (an:={}) rfl (fun A' hA=>by
        have f0:=ar_len hA L n hn
        have f1:=hsub A' hA
        have f2:=ar_le hA (Int.le_refl 0)
        have f3:=ar_le hA (show 0<=n by omega)
        have f4:=ar_le hA (Int.le_refl n)
        have f5:=ar_eq hA (show n=n from rfl)
        have f6:=ar_app hA _ _ _ hL3
        have f7:=ar_fits' hA n [.agg [I t,I a,I b]] (by simp;omega)
        repeat (cbv;simp only [f0,f1,f2,f3,f4,f5,f6,f7])
        cbv) (H:=[A s2,B s2,.cells [.d X],.cells [.yield 1],.cells [.d (.list 3 LA)],.cells [.func 110 [] [.ptr 2 0,.ptr 3 0,.ptr 4 0,.ptr 5 0]]])
        (H':=[A s3,B s3,.cells [.d X],.cells [.yield 1],.cells [.d (.list 3 LA)],.cells [.func 110 [] [.ptr 2 0,.ptr 3 0,.ptr 4 0,.ptr 5 0]]]) rfl (.inr rfl) (hin s2) rfl rfl (Nat.le_of_ble_eq_true rfl) rfl rfl hcall ?_
      refine DOps.done hT (an:={}) rfl (fun A hA=>by cbv) (by kernel_rfl) ?_
      try dsimp only [AExit.then,AExit.block]
      cases b3 with
      | true =>
        repeat refine AWp.seq ?_
        refine AWp.cond (b:=false) rfl (AWp.skip ?_)
        try dsimp only [AExit.then,AExit.block]
        repeat refine AWp.seq ?_
        refine AWp.reg1 {} hT (fun A hA=>by
          have f0:=ar_add hA z 1 z1 hz1 (by omega) (by omega)
          repeat (cbv;simp only [f0])
          cbv) (Nat.le_of_ble_eq_true rfl) ?_
        try dsimp only [AExit.then,AExit.block]
        exact ⟨by exact hin s3,(z1,s3),⟨by dsimp only;omega,by dsimp only;omega,hr2⟩,by dsimp only;omega,by cbv⟩
      | false =>
        repeat refine AWp.seq ?_
        refine AWp.cond (b:=true) rfl ?_
        rw [if_pos rfl]
        repeat refine AWp.seq ?_
        refine AWp.reg1 {} hT (fun A hA=>by cbv) (Nat.le_of_ble_eq_true rfl) ?_
        try dsimp only [AExit.then,AExit.block]
        have:(fs,fb)=(s3,false):=by rw [<-hfin,hwhole,<-List.append_assoc,<-hnext,runY_append,hr2];rfl
        injection this with e1 e2;subst e1 e2
        refine AWp.ret ⟨rfl,rfl,hin _,Nat.le_refl _,_,rfl⟩
    ·repeat refine AWp.seq ?_
     refine AWp.reg1 {} hT (fun A hA=>by
       have f0:=ar_nlt hA hz
       repeat (cbv;simp only [f0])
       cbv) (Nat.le_of_ble_eq_true rfl) ?_
     try dsimp only [AExit.then,AExit.block]
     repeat refine AWp.seq ?_
     refine AWp.cond (b:=false) rfl (AWp.exit ?_)
     try dsimp only [AExit.then,AExit.block]
     rw [if_pos rfl]
     repeat refine AWp.seq ?_
     refine AWp.reg1 {} hT (fun A hA=>by cbv) (Nat.le_of_ble_eq_true rfl) ?_
     try dsimp only [AExit.then,AExit.block]
     rw [List.take_of_length_le (by omega),hfin] at hr
     injection hr with e1 e2;subst e1 e2
     refine AWp.ret ⟨rfl,rfl,hin _,Nat.le_refl _,[],rfl⟩
end Go.Am

namespace Go.Am
open Go Go.Proofs
theorem mem_stations {x:List (List Acc)} {s:Sta} (h:s∈stations x):isThere x s=true:=by
 unfold stations staT at h
 simp only [List.mem_flatMap,List.mem_range] at h
 obtain ⟨t,ht,h⟩:=h
 unfold staA at h
 simp only [List.mem_flatMap,List.mem_range] at h
 obtain ⟨a,ha,h⟩:=h
 unfold staB at h
 simp only [List.mem_map,List.mem_filter,List.mem_range,zp4,Bool.or_eq_true,decide_eq_true_eq] at h
 obtain ⟨b,⟨hb,hab,hor⟩,rfl⟩:=h
 rw [List.getD_eq_getElem?_getD,zp1 ht] at ha hb
 simp only [Option.getD_some] at ha hb
 unfold isThere there
 simp [ht]
 omega
theorem flatMap_len {α:Type} (g:Nat->List α) (k:Nat) : ∀ (l:List Nat),(∀ t∈l,(g t).length<=k)->(l.flatMap g).length<=l.length*k
 | [],_=>by simp
 | t::r,h=>by
   have h1:=flatMap_len g k r (fun t ht=>h t (by simp [ht]))
   have h2:=h t (by simp)
   simp only [List.flatMap_cons,List.length_append,List.length_cons,Nat.succ_mul]
   omega
theorem stations_length {x:List (List Acc)} (hx:Small x):(stations x).length<=1000000000:=by
 have h1 : ∀ t a n,(staB x t a n).length<=n:=fun t a n=>by
  unfold staB
  rw [List.length_map]
  exact Nat.le_trans (List.length_filter_le _ _) (by simp)
 have h2 : ∀ t,t<x.length->(staA x t (x.getD t []).length (x.getD t []).length).length<=1000000:=fun t ht=>by
  have hl:=hx.2 _ (zp6 ht)
  have:=flatMap_len (fun a=>staB x t a (x.getD t []).length) (x.getD t []).length (List.range (x.getD t []).length) (fun a _=>h1 _ _ _)
  rw [List.getD_eq_getElem?_getD,zp1 ht] at this ⊢
  simp only [Option.getD_some,List.length_range] at this ⊢
  exact Nat.le_trans this (Nat.mul_le_mul hl hl)
 have:=flatMap_len (fun t=>staA x t (x.getD t []).length (x.getD t []).length) 1000000 (List.range x.length) (fun t ht=>h2 t (List.mem_range.1 ht))
 rw [List.length_range] at this
 exact Nat.le_trans this (Nat.mul_le_mul_right _ hx.1)
def circles (x:List (List Acc)):List (List Sta):=circFrom x (stations x) 3 []
theorem circles_ok {S:Type} (A B:S->Obj) (hAB : ∀ s k,2<=k->(A s).inbG k=true/\(B s).inbG k=true) (step:S->List Sta->S×Bool) (x:List (List Acc)) (hx:Small x)
  (hy : ∀ s l,l.length<=3->YCall P 1 [.d (.list 3 (l.map dSta))] [A s,B s] (AB (step s l).2) [A (step s l).1,B (step s l).1]) (s:S) :
  ACall P 61 [.d (dX x),.yield 1] [A s,B s] (.tuple []) [A (runY step s (circles x)).1,B (runY step s (circles x)).1]:=by
 have cg:=grow_ok A B hAB step x hx (stations x) (fun s hs=>mem_stations hs) (Nat.le_trans (stations_length hx) (by omega)) hy 3 [] s rfl (by simp)
 have cs:=stations_ok x hx
 have hin2 : ∀ s,objsInb [A s,B s].length [A s,B s]=true:=fun s=>by
  have h1:=(hAB s 2 (by omega)).1
  have h2:=(hAB s 2 (by omega)).2
  exact objsG h1 (objsG h2 rfl)
 have hin : ∀ X LA s,objsInb (heapC X (A s) (B s) LA).length (heapC X (A s) (B s) LA)=true:=fun X LA s=>by
  have h1:=(hAB s 6 (by omega)).1
  have h2:=(hAB s 6 (by omega)).2
  exact objsG h1 (objsG h2 rfl)
 unfold circles
 obtain ⟨X,hX⟩ : ∃ X,dX x = .list 1 X:=⟨_,rfl⟩
 obtain ⟨LA,hLA⟩ : ∃ L,(stations x).map dSta=L:=⟨_,rfl⟩
 obtain ⟨⟨fs,fb⟩,hfin⟩ : ∃ p,runY step s (circFrom x (stations x) 3 [])=p:=⟨_,rfl⟩
 rw [hX,hLA,hfin] at cg
 rw [hX,hLA] at cs
 rw [hX,hfin]
 refine ACall.enter hT (fn:=Try.f61) Try.func61 rfl (by decide) (by simp [Try.f61]) rfl rfl rfl (hin2 _) (Nat.le_refl _) ?_
 unfold heapC at *
 repeat refine AWp.seq ?_
 refine AWp.reg1 {esc:=[2,3]} hT (fun A hA=>by cbv) (Nat.le_of_ble_eq_true rfl) ?_
 try dsimp only [AExit.then,AExit.block]
 repeat refine AWp.seq ?_
 refine AWp.region ?_
 refine AOps.stepCall hT (an:={}) (fun A hA=>by cbv) (Nat.le_of_ble_eq_true rfl) rfl (.inr rfl) rfl rfl rfl (Nat.le_of_ble_eq_true rfl) rfl rfl (cs) ?_
 refine AOps.done hT (an:={esc:=[4]}) (fun A hA=>by cbv) (Nat.le_of_ble_eq_true rfl) ?_
 try dsimp only [AExit.then,AExit.block]
 repeat refine AWp.seq ?_
 refine AWp.reg1 {esc:=[5]} hT (fun A hA=>by cbv) (Nat.le_of_ble_eq_true rfl) ?_
 try dsimp only [AExit.then,AExit.block]
 repeat refine AWp.seq ?_
 refine AWp.reg1 {} hT (fun A hA=>by cbv) (Nat.le_of_ble_eq_true rfl) ?_
 try dsimp only [AExit.then,AExit.block]
 repeat refine AWp.seq ?_
 refine AWp.region ?_
 refine AOps.stepCallW hT (an:={}) (fun A hA=>by cbv) (Nat.le_of_ble_eq_true rfl) (hin (.list 1 X) LA s) rfl rfl (Nat.le_of_ble_eq_true rfl) rfl rfl cg ?_
 refine AOps.done hT (an:={}) (fun A hA=>by cbv) (Nat.le_of_ble_eq_true rfl) ?_
 try dsimp only [AExit.then,AExit.block]
 exact ⟨rfl,rfl,hin2 _,Nat.le_refl _,_,rfl⟩
end Go.Am

namespace Go.Am
open Go Go.Proofs
def count (n:Int) (_:List Sta):Int×Bool:=(IntKind.i64.wrap (n+1),true)
theorem runY_count : ∀ (l:List (List Sta)) (n:Int),0<=n->n+l.length<9223372036854775808->runY count n l=(n+l.length,true)
 | [],n,_,_=>by simp [runY]
 | c::r,n,h,h1=>by
   simp only [List.length_cons] at h1
   simp only [runY,count,if_true]
   rw [wrapI _ (by omega) (by omega),runY_count r (n+1) (by omega) (by omega)]
   simp only [List.length_cons]
   congr 1
   omega
def circBound:Nat->Nat
 | 0=>1
 | k+1=>1+48*circBound k
theorem circFrom_length (x:List (List Acc)) (all:List Sta) (hall:all.length<=48) : ∀ (k:Nat) (l:List Sta),(circFrom x all k l).length<=circBound k:=by
 intro k
 induction k with
 | zero=>intro l;unfold circFrom circHere;split <;> simp [circBound]
 | succ k ih =>
   intro l
   unfold circFrom
   have h1:(circHere x l).length<=1:=by unfold circHere;split <;> simp
   have h2 : ∀ (q:List Sta),(q.flatMap fun st=>if nextOk x l st then circFrom x all k (l++[st]) else []).length<=q.length*circBound k:=by
    intro q
    induction q with
    | nil=>simp
    | cons a r ih2 =>
      simp only [List.flatMap_cons,List.length_append,List.length_cons,Nat.succ_mul]
      have:(if nextOk x l a then circFrom x all k (l++[a]) else []).length<=circBound k:=by
       split
       ·exact ih _
       ·simp
      omega
   have h3:=h2 all
   have h4:=Nat.mul_le_mul_right (circBound k) hall
   rw [List.length_append]
   unfold circBound
   omega
theorem valid_sizes {x:List (List Acc)} (h:valid x=true):1<=x.length/\x.length<=3 /\ ∀ l∈x,l.length<=4 /\ ∀ a∈l,0<=a.1/\a.1<=2:=by
 unfold valid at h
 simp only [zp4,decide_eq_true_eq,Bool.not_eq_true'] at h
 obtain ⟨⟨h1,h2⟩,h3⟩:=h
 refine ⟨by omega,by omega,fun l hl => ?_⟩
 have:=List.any_eq_false.1 h3 l hl
 unfold badL at this
 simp only [Bool.or_eq_true,decide_eq_true_eq,not_or] at this
 refine ⟨by omega,fun a ha => ?_⟩
 have h5 : ¬ badAcc a=true:=fun h=>this.2 (any_mem_true ha h)
 unfold badAcc at h5
 simp at h5
 exact h5
theorem valid_small {x:List (List Acc)} (h:valid x=true):Small x:=by
 obtain ⟨h1,h2,h3⟩:=valid_sizes h
 exact ⟨by omega,fun l hl=>by have:=(h3 l hl).1;omega⟩
theorem stations_48 {x:List (List Acc)} (h:valid x=true):(stations x).length<=48:=by
 obtain ⟨h1,h2,h3⟩:=valid_sizes h
 have h4 : ∀ t a n,(staB x t a n).length<=n:=fun t a n=>by
  unfold staB
  rw [List.length_map]
  exact Nat.le_trans (List.length_filter_le _ _) (by simp)
 have h5 : ∀ t,t<x.length->(staA x t (x.getD t []).length (x.getD t []).length).length<=16:=fun t ht=>by
  have hl:=(h3 _ (zp6 ht)).1
  have:=flatMap_len (fun a=>staB x t a (x.getD t []).length) (x.getD t []).length (List.range (x.getD t []).length) (fun a _=>h4 _ _ _)
  rw [List.getD_eq_getElem?_getD,zp1 ht] at this ⊢
  simp only [Option.getD_some,List.length_range] at this ⊢
  exact Nat.le_trans this (Nat.mul_le_mul hl hl)
 have:=flatMap_len (fun t=>staA x t (x.getD t []).length (x.getD t []).length) 16 (List.range x.length) (fun t ht=>h5 t (List.mem_range.1 ht))
 rw [List.length_range] at this
 exact Nat.le_trans this (Nat.mul_le_mul_right _ h2)
theorem count_circles {x:List (List Acc)} (h:valid x=true):runY count 0 (circles x)=(((circles x).length:Int),true):=by
 have h1:(circles x).length<=circBound 3:=circFrom_length x _ (stations_48 h) 3 []
 have h2:circBound 3=112945:=by decide
 rw [runY_count _ _ (by omega) (by omega)]
 simp
def nCirc (x:List (List Acc)):Nat:=(circles x).length
theorem Circles_ok (x:List (List Acc)) (hx:Big x):ACall P 16 [.d (dX x)] [] (.tuple (if valid x then [AI (nCirc x),AI 0] else [AI 0,AI 90])) []:=by
 have cv:=valid_ok x hx
 cases hv:valid x with
 | false =>
   rw [hv] at cv
   obtain ⟨X,hX⟩ : ∃ X,dX x=X:=⟨_,rfl⟩
   rw [hX] at cv ⊢
   refine ACall.enter hT (fn:=Try.f16) Try.func16 rfl (by decide) (by simp [Try.f16]) rfl rfl rfl rfl (Nat.le_refl _) ?_
   repeat refine AWp.seq ?_
   refine AWp.reg1 {} hT (fun A hA=>by cbv) (Nat.zero_le _) ?_
   try dsimp only [AExit.then,AExit.block]
   repeat refine AWp.seq ?_
   refine AWp.region ?_
   refine AOps.stepCall hT (an:={}) (fun A hA=>by cbv) (Nat.zero_le _) rfl (.inr rfl) rfl rfl rfl (Nat.le_of_ble_eq_true rfl) rfl rfl (cv) ?_
   refine AOps.done hT (an:={}) (fun A hA=>by cbv) (Nat.zero_le _) ?_
   try dsimp only [AExit.then,AExit.block]
   repeat refine AWp.seq ?_
   refine AWp.cond (b:=true) rfl ?_
   rw [if_pos rfl]
   repeat refine AWp.seq ?_
   refine AWp.reg1 {} hT (fun A hA=>by cbv) (Nat.zero_le _) ?_
   try dsimp only [AExit.then,AExit.block]
   repeat refine AWp.seq ?_
   refine AWp.ret ⟨?_,rfl,rfl,Nat.zero_le _,_,rfl⟩
   rfl
 | true =>
   have hsm:=valid_small hv
   have hcnt:=count_circles hv
   unfold nCirc
   rw [hv] at cv
   have ccs:=fun (A B:Int->Obj) hAB hy=>circles_ok A B hAB count x hsm hy 0
   rw [if_pos rfl]
   obtain ⟨X,hX⟩ : ∃ X,dX x=X:=⟨_,rfl⟩
   obtain ⟨N,hN⟩ : ∃ r:Int,((circles x).length:Int)=r:=⟨_,rfl⟩
   rw [hN] at hcnt
   rw [hX] at cv ⊢
   simp only [hX,hcnt] at ccs
   rw [hN]
   refine ACall.enterT hT (fn:=Try.f16) Try.func16 rfl (by decide) (by simp [Try.f16]) rfl rfl rfl rfl (Nat.le_refl _) ?_
   refine AWpT.seq (AWpT.of ?_)
   repeat refine AWp.seq ?_
   refine AWp.reg1 {} hT (fun A hA=>by cbv) (Nat.zero_le _) ?_
   try dsimp only [AExit.then,AExit.block]
   refine AWpT.seq (AWpT.of ?_)
   repeat refine AWp.seq ?_
   refine AWp.region ?_
   refine AOps.stepCall hT (an:={}) (fun A hA=>by cbv) (Nat.zero_le _) rfl (.inr rfl) rfl rfl rfl (Nat.le_of_ble_eq_true rfl) rfl rfl (cv) ?_
   refine AOps.done hT (an:={}) (fun A hA=>by cbv) (Nat.zero_le _) ?_
   try dsimp only [AExit.then,AExit.block]
   repeat refine AWp.seq ?_
   refine AWp.cond (b:=false) rfl (AWp.skip ?_)
   try dsimp only [AExit.then,AExit.block]
   refine AWpT.seq (AWpT.of ?_)
   repeat refine AWp.seq ?_
   refine AWp.reg1 {esc:=[4]} hT (fun A hA=>by cbv) (Nat.zero_le _) ?_
   try dsimp only [AExit.then,AExit.block]
   refine AWpT.seq (AWpT.seq (AWpT.of ?_))
   repeat refine AWp.seq ?_
   refine AWp.reg1 {} hT (fun A hA=>by cbv) (Nat.zero_le _) ?_
   try dsimp only [AExit.then,AExit.block]
   refine AWpT.block ?_
   refine AWpT.rangeFunc (st := .ready) (pend:=none) [4] rfl (Nat.zero_le _) ?_ ?_ ?_ (ccs (fun n => .cells [AI n]) (fun _ => .loop _) ?_ ?_) ?_ ?_ ?_
   ·rfl
   ·rfl
   ·rfl
   ·intro s k hk
    refine ⟨rfl,?_⟩
    show ((decide (0<k)&&true)&&true)=true
    simp;omega
   ·intro n l hl
    obtain ⟨L,hL⟩ : ∃ L,l.map dSta=L:=⟨_,rfl⟩
    rw [hL]
    obtain ⟨n1,hn1⟩ : ∃ n1,IntKind.i64.wrap (n+1)=n1:=⟨_,rfl⟩
    unfold count
    rw [hn1]
    have hadd : ∀ A:Ar,A=Ar.std->A.wrp .i64 (A.zadd n 1)=n1:=fun A hA=>by subst hA;exact hn1
    refine YCall.mk (y:=1) rfl rfl rfl rfl rfl rfl (Nat.le_refl _) ?_
    refine AWp.skip ⟨rfl,rfl,?_⟩
    refine AWp.block ?_
    repeat refine AWp.seq ?_
    refine AWp.reg1 {} hT (fun A hA=>by
      have f0:=hadd A hA
      repeat (cbv;simp only [f0])
      cbv) (Nat.le_of_ble_eq_true rfl) ?_
    try dsimp only [AExit.then,AExit.block]
    exact ⟨rfl,rfl,[],rfl⟩
   ·simp
   ·rfl
   ·dsimp only [AWpT.behind,AExit.then,AExit.block]
    refine AWpT.of ?_
    repeat refine AWp.seq ?_
    refine AWp.reg1 {} hT (fun A hA=>by cbv) (Nat.le_of_ble_eq_true rfl) ?_
    try dsimp only [AExit.then,AExit.block]
    repeat refine AWp.seq ?_
    refine AWp.ret ⟨?_,rfl,rfl,Nat.le_of_ble_eq_true rfl,_,rfl⟩
    rfl
end Go.Am

namespace Go.Am
open Go Go.Proofs
def heapC2 (X:D) (A1 A2 B:Obj) (LA:List D):List Obj:=[A1,A2,B,.cells [.d X],.cells [.yield 2],.cells [.d (.list 3 LA)],.cells [.func 110 [] [.ptr 3 0,.ptr 4 0,.ptr 5 0,.ptr 6 0]]]
theorem grow_ok2 {S:Type} (A1 A2 B:S->Obj) (hAB : ∀ s m,3<=m->(A1 s).inbG m=true/\(A2 s).inbG m=true/\(B s).inbG m=true) (step:S->List Sta->S×Bool) (x:List (List Acc)) (hx:Small x) (all:List Sta) (hall : ∀ s∈all,isThere x s=true) (halln:all.length<=1000000000000)
  (hy : ∀ s l,l.length<=3->YCall P 2 [.d (.list 3 (l.map dSta))] [A1 s,A2 s,B s] (AB (step s l).2) [A1 (step s l).1,A2 (step s l).1,B (step s l).1]) :
  ∀ (k:Nat) (l:List Sta) (s:S),l.length+k=3->(∀ u∈l,isThere x u=true) ->
    ACall P 110 [.d (.list 3 (l.map dSta)),.ptr 3 0,.ptr 4 0,.ptr 5 0,.ptr 6 0] (heapC2 (dX x) (A1 s) (A2 s) (B s) (all.map dSta)) (AB (runY step s (circFrom x all k l)).2)
     (heapC2 (dX x) (A1 (runY step s (circFrom x all k l)).1) (A2 (runY step s (circFrom x all k l)).1) (B (runY step s (circFrom x all k l)).1) (all.map dSta)):=by
 intro k
 induction k with
 | zero =>
   intro l s hlk hlt
   have ci:=isCircle_ok x hx l (by omega) hlt
   have hys:=hy s l (by omega)
   have hrun:runY step s (circFrom x all 0 l)=if isCircle x l then step s l else (s,true):=by
    unfold circFrom circHere
    rw [show decide (2<=l.length)=true by simp;omega]
    cases isCircle x l
    ·rfl
    ·cases h:step s l with | mk s' b=>cases b <;> simp [runY,h]
   rw [hrun]
   obtain ⟨X,hX⟩ : ∃ X,dX x=X:=⟨_,rfl⟩
   obtain ⟨L,hL⟩ : ∃ L,l.map dSta=L:=⟨_,rfl⟩
   obtain ⟨LA,hLA⟩ : ∃ L,all.map dSta=L:=⟨_,rfl⟩
   have hn:(L.length:Int)=3:=by rw [<-hL];simp;omega
   obtain ⟨ic,hic⟩ : ∃ b,isCircle x l=b:=⟨_,rfl⟩
   obtain ⟨⟨s',b'⟩,hst⟩ : ∃ p,step s l=p:=⟨_,rfl⟩
   rw [hst] at hys
   rw [hX,hL,hic] at ci
   rw [hL] at hys
   rw [hX,hL,hLA,hic,hst]
   dsimp only at hys
   have hin : ∀ s,objsInb (heapC2 X (A1 s) (A2 s) (B s) LA).length (heapC2 X (A1 s) (A2 s) (B s) LA)=true:=fun s=>by
    obtain ⟨h1,h2,h3⟩:=hAB s 7 (by omega)
    exact objsG h1 (objsG h2 (objsG h3 rfl))
   refine ACall.enter hT (fn:=Try.f110) Try.func110 rfl (by decide) (by simp [Try.f110]) rfl rfl rfl (by cases ic <;> exact hin _) (by cases ic <;> exact Nat.le_refl _) ?_
   unfold heapC2 at *
   have hin2 : ∀ s,objsInb [A1 s,A2 s,B s].length [A1 s,A2 s,B s]=true:=fun s=>by
    obtain ⟨h1,h2,h3⟩:=hAB s 3 (Nat.le_refl _)
    exact objsG h1 (objsG h2 (objsG h3 rfl))
   repeat refine AWp.seq ?_
   refine AWp.reg1 {} hT (fun A hA=>by cbv) (Nat.le_refl _) ?_
   try dsimp only [AExit.then,AExit.block]
   repeat refine AWp.seq ?_
   refine AWp.region ?_
   refine AOps.stepCall hT (an:={}) (fun A hA=>by
     have f0:=ar_len hA L 3 hn
     have f1:=ar_le hA (show (2:Int)<=3 by omega)
     repeat (cbv;simp only [f0,f1])
     cbv) (Nat.le_refl _) rfl (.inr rfl) rfl rfl rfl (Nat.le_of_ble_eq_true rfl) rfl rfl (ci) ?_
   cases ic with
   | false =>
     refine AOps.done hT (an:={}) (fun A hA=>by cbv) (Nat.le_refl _) ?_
     try dsimp only [AExit.then,AExit.block]
     repeat refine AWp.seq ?_
     refine AWp.cond (b:=false) rfl (AWp.skip ?_)
     try dsimp only [AExit.then,AExit.block]
     repeat refine AWp.seq ?_
     refine AWp.reg1 {} hT (fun A hA=>by
       have f0:=ar_len hA L 3 hn
       have f1:=ar_eq hA (show (3:Int)=3 by omega)
       repeat (cbv;simp only [f0,f1])
       cbv) (Nat.le_refl _) ?_
     try dsimp only [AExit.then,AExit.block]
     repeat refine AWp.seq ?_
     refine AWp.cond (b:=true) rfl ?_
     rw [if_pos rfl]
     repeat refine AWp.seq ?_
     refine AWp.reg1 {} hT (fun A hA=>by cbv) (Nat.le_refl _) ?_
     try dsimp only [AExit.then,AExit.block]
     refine AWp.ret ⟨rfl,rfl,hin _,Nat.le_refl _,[],rfl⟩
   | true =>
     refine AOps.stepY hT (an:={}) (H:=[A1 s,A2 s,B s]) (H':=[A1 s',A2 s',B s']) (fun A hA=>by cbv) (Nat.le_refl _) rfl (.inr rfl) (hin2 s) rfl rfl (Nat.le_of_ble_eq_true rfl) rfl rfl hys ?_
     cases b' with
     | true =>
       refine AOps.done hT (an:={}) (fun A hA=>by cbv) (Nat.le_refl _) ?_
       try dsimp only [AExit.then,AExit.block]
       repeat refine AWp.seq ?_
       refine AWp.cond (b:=false) rfl (AWp.skip ?_)
       try dsimp only [AExit.then,AExit.block]
       repeat refine AWp.seq ?_
       refine AWp.reg1 {} hT (fun A hA=>by
         have f0:=ar_len hA L 3 hn
         have f1:=ar_eq hA (show (3:Int)=3 by omega)
         repeat (cbv;simp only [f0,f1])
         cbv) (Nat.le_refl _) ?_
       try dsimp only [AExit.then,AExit.block]
       repeat refine AWp.seq ?_
       refine AWp.cond (b:=true) rfl ?_
       rw [if_pos rfl]
       repeat refine AWp.seq ?_
       refine AWp.reg1 {} hT (fun A hA=>by cbv) (Nat.le_refl _) ?_
       try dsimp only [AExit.then,AExit.block]
       refine AWp.ret ⟨rfl,rfl,hin _,Nat.le_refl _,[],rfl⟩
     | false =>
       refine AOps.done hT (an:={}) (fun A hA=>by cbv) (Nat.le_refl _) ?_
       try dsimp only [AExit.then,AExit.block]
       repeat refine AWp.seq ?_
       refine AWp.cond (b:=true) rfl ?_
       rw [if_pos rfl]
       repeat refine AWp.seq ?_
       refine AWp.reg1 {} hT (fun A hA=>by cbv) (Nat.le_refl _) ?_
       try dsimp only [AExit.then,AExit.block]
       refine AWp.ret ⟨rfl,rfl,hin _,Nat.le_refl _,[],rfl⟩
 | succ k ih =>
   intro l s hlk hlt
   have ci:=isCircle_ok x hx l (by omega) hlt
   have hys:=hy s l (by omega)
   obtain ⟨Gn,hGn⟩ : ∃ Gn:Sta->List (List Sta),Gn=fun st=>if nextOk x l st then circFrom x all k (l++[st]) else []:=⟨_,rfl⟩
   have hrun:runY step s (circFrom x all (k+1) l)=if (runY step s (circHere x l)).2 then runY step (runY step s (circHere x l)).1 (all.flatMap Gn) else runY step s (circHere x l):=by
    rw [hGn];exact runY_append _ _ _ _
   have hhere:runY step s (circHere x l)=if decide (2<=l.length)&&isCircle x l then step s l else (s,true):=by
    unfold circHere
    split
    ·cases h:step s l with | mk s' b=>cases b <;> simp [runY,h]
    ·rfl
   have hG : ∀ st,Gn st=if nextOk x l st then circFrom x all k (l++[st]) else []:=fun st=>by rw [hGn]
   have hnx : ∀ st,nextOk x l st=(decide (l.length=0)||conflict x (lastOf l).1 (lastOf l).2.2 st.1 st.2.1):=fun st=>rfl
   have ih' : ∀ (s:S) (st:Sta),st∈all->ACall P 110 [.d (.list 3 (l.map dSta++[dSta st])),.ptr 3 0,.ptr 4 0,.ptr 5 0,.ptr 6 0] (heapC2 (dX x) (A1 s) (A2 s) (B s) (all.map dSta)) (AB (runY step s (circFrom x all k (l++[st]))).2)
     (heapC2 (dX x) (A1 (runY step s (circFrom x all k (l++[st]))).1) (A2 (runY step s (circFrom x all k (l++[st]))).1) (B (runY step s (circFrom x all k (l++[st]))).1) (all.map dSta)):=fun s st hst=>by
    have:=ih (l++[st]) s (by simp;omega) (fun u hu=>by
     rcases List.mem_append.1 hu with h | h
     ·exact hlt u h
     ·simp at h;subst h;exact hall u hst)
    rwa [List.map_append] at this
   have hlast:l.length≠0->lastOf l∈l/\l[l.length-1]?=some (lastOf l):=fun h=>by
    have h1:l.length-1<l.length:=by omega
    have h2:l[l.length-1]?=some (lastOf l):=by unfold lastOf;rw [List.getD_eq_getElem?_getD,zp1 h1];rfl
    exact ⟨List.mem_of_getElem? h2,h2⟩
   have hconf : ∀ u,isThere x u=true -> ∀ v,isThere x v=true->ACall P 63 [.d (dX x),.d (.agg [I u.1,I u.2.2]),.d (.agg [I v.1,I v.2.1])] [] (AB (conflict x u.1 u.2.2 v.1 v.2.1)) []:=fun u hu v hv =>
    conflict_ok x _ _ _ _ (by unfold isThere at hu;simp at hu;exact hu.2) (by unfold isThere at hv;simp at hv;exact hv.1)
   rw [hrun]
   generalize hres:runY step s (circHere x l)=res at *
   obtain ⟨X,hX⟩ : ∃ X,dX x=X:=⟨_,rfl⟩
   obtain ⟨L,hL⟩ : ∃ L,l.map dSta=L:=⟨_,rfl⟩
   obtain ⟨LA,hLA⟩ : ∃ L,all.map dSta=L:=⟨_,rfl⟩
   obtain ⟨n,hn⟩ : ∃ n:Int,(L.length:Int)=n:=⟨_,rfl⟩
   have hln:(l.length:Int)=n:=by rw [<-hn,<-hL];simp
   obtain ⟨N,hN⟩ : ∃ n:Int,(LA.length:Int)=n:=⟨_,rfl⟩
   have hlN:(all.length:Int)=N:=by rw [<-hN,<-hLA];simp
   obtain ⟨ic,hic⟩ : ∃ b,isCircle x l=b:=⟨_,rfl⟩
   obtain ⟨⟨s',b'⟩,hst⟩ : ∃ p,step s l=p:=⟨_,rfl⟩
   rw [hst] at hys hhere
   rw [hX,hL,hic] at ci
   rw [hic] at hhere
   rw [hL] at hys
   rw [hX,hL,hLA] at ih' ⊢
   simp only [hX] at hconf
   dsimp only at hys
   have hin : ∀ s,objsInb (heapC2 X (A1 s) (A2 s) (B s) LA).length (heapC2 X (A1 s) (A2 s) (B s) LA)=true:=fun s=>by
    obtain ⟨h1,h2,h3⟩:=hAB s 7 (by omega)
    exact objsG h1 (objsG h2 (objsG h3 rfl))
   have hin2 : ∀ s,objsInb [A1 s,A2 s,B s].length [A1 s,A2 s,B s]=true:=fun s=>by
    obtain ⟨h1,h2,h3⟩:=hAB s 3 (by omega)
    exact objsG h1 (objsG h2 (objsG h3 rfl))
   obtain ⟨⟨fs,fb⟩,hfin⟩ : ∃ p,(if res.2 then runY step res.1 (all.flatMap Gn) else res)=p:=⟨_,rfl⟩
   rw [hfin]
   refine ACall.enter hT (fn:=Try.f110) Try.func110 rfl (by decide) (by simp [Try.f110]) rfl rfl rfl (hin _) (Nat.le_refl _) ?_
   unfold heapC2 at *
   repeat refine AWp.seq ?_
   refine AWp.reg1 {} hT (fun A hA=>by cbv) (Nat.le_of_ble_eq_true rfl) ?_
   try dsimp only [AExit.then,AExit.block]
   refine AWp.cut (fun σ' => ∃ s1,res=(s1,true)/\σ'.keep [0,1,2,3,4]={ env:=[(0,.d (.list 3 L)),(1,.ptr 3 0),(2,.ptr 4 0),(3,.ptr 5 0),(4,.ptr 6 0)],heap:=heapC2 X (A1 s1) (A2 s1) (B s1) LA,n:=62 }) ?_ ?_
   ·unfold heapC2
    by_cases h2:2<=n
    ·rw [show decide (2<=l.length)=true by simp;omega] at hhere
     repeat refine AWp.seq ?_
     refine AWp.region ?_
     refine AOps.stepCall hT (an:={}) (fun A hA=>by
       have f0:=ar_len hA L n hn
       have f1:=ar_le hA h2
       repeat (cbv;simp only [f0,f1])
       cbv) (Nat.le_of_ble_eq_true rfl) rfl (.inr rfl) rfl rfl rfl (Nat.le_of_ble_eq_true rfl) rfl rfl (ci) ?_
     cases ic with
     | false =>
       refine AOps.done hT (an:={}) (fun A hA=>by cbv) (Nat.le_of_ble_eq_true rfl) ?_
       try dsimp only [AExit.then,AExit.block]
       repeat refine AWp.seq ?_
       refine AWp.cond (b:=false) rfl (AWp.skip ?_)
       try dsimp only [AExit.then,AExit.block]
       exact ⟨s,hhere,by cbv⟩
     | true =>
       refine AOps.stepY hT (an:={}) (H:=[A1 s,A2 s,B s]) (H':=[A1 s',A2 s',B s']) (fun A hA=>by cbv) (Nat.le_refl _) rfl (.inr rfl) (hin2 s) rfl rfl (Nat.le_of_ble_eq_true rfl) rfl rfl hys ?_
       cases b' with
       | true =>
         refine AOps.done hT (an:={}) (fun A hA=>by cbv) (Nat.le_of_ble_eq_true rfl) ?_
         try dsimp only [AExit.then,AExit.block]
         repeat refine AWp.seq ?_
         refine AWp.cond (b:=false) rfl (AWp.skip ?_)
         try dsimp only [AExit.then,AExit.block]
         exact ⟨s',hhere,by cbv⟩
       | false =>
         refine AOps.done hT (an:={}) (fun A hA=>by cbv) (Nat.le_of_ble_eq_true rfl) ?_
         try dsimp only [AExit.then,AExit.block]
         repeat refine AWp.seq ?_
         refine AWp.cond (b:=true) rfl ?_
         rw [if_pos rfl]
         repeat refine AWp.seq ?_
         refine AWp.reg1 {} hT (fun A hA=>by cbv) (Nat.le_of_ble_eq_true rfl) ?_
         try dsimp only [AExit.then,AExit.block]
         have:(fs,fb)=(s',false):=by rw [<-hfin,hhere];rfl
         injection this with e1 e2;subst e1 e2
         refine AWp.ret ⟨rfl,rfl,hin _,Nat.le_refl _,[],rfl⟩
    ·rw [show decide (2<=l.length)=false by simp;omega] at hhere
     repeat refine AWp.seq ?_
     refine AWp.reg1 {} hT (fun A hA=>by
       have f0:=ar_len hA L n hn
       have f1:=ar_nle hA h2
       repeat (cbv;simp only [f0,f1])
       cbv) (Nat.le_of_ble_eq_true rfl) ?_
     try dsimp only [AExit.then,AExit.block]
     repeat refine AWp.seq ?_
     refine AWp.cond (b:=false) rfl (AWp.skip ?_)
     try dsimp only [AExit.then,AExit.block]
     exact ⟨s,hhere,by cbv⟩
   ·rintro σ1 ⟨s1,hs1,hσ1⟩
    refine AWp.keep [0,1,2,3,4] ?_
    rw [hσ1]
    unfold heapC2
    rw [hs1] at hfin
    simp only [if_true] at hfin
    repeat refine AWp.seq ?_
    refine AWp.reg1 {} hT (fun A hA=>by
      have f0:=ar_len hA L n hn
      have f1:=ar_ne hA (show ¬ n=3 by omega)
      repeat (cbv;simp only [f0,f1])
      cbv) (Nat.le_of_ble_eq_true rfl) ?_
    try dsimp only [AExit.then,AExit.block]
    repeat refine AWp.seq ?_
    refine AWp.cond (b:=false) rfl (AWp.skip ?_)
    try dsimp only [AExit.then,AExit.block]
    repeat refine AWp.seq ?_
    refine AWp.reg1 {} hT (fun A hA=>by
      have f0:=ar_len hA LA N hN
      repeat (cbv;simp only [f0])
      cbv) (Nat.le_of_ble_eq_true rfl) ?_
    try dsimp only [AExit.then,AExit.block]
    refine AWp.block (AWp.loopH (ι:=Int×S) (fun p=>0<=p.1/\p.1<=N/\runY step s1 ((all.take p.1.toNat).flatMap Gn)=(p.2,true)) (fun p=>(N-p.1).toNat) [0,1,2,3,4,26,27,28] 7
     (fun p=>{ env:=[(0,.d (.list 3 L)),(1,.ptr 3 0),(2,.ptr 4 0),(3,.ptr 5 0),(4,.ptr 6 0),(26,.d (.list 3 LA)),(27,AI N),(28,AI p.1)],heap:=heapC2 X (A1 p.2) (A2 p.2) (B p.2) LA,n:=62 }) (0,s1) (Nat.le_refl _) (by exact hin s1) (by cbv) ⟨Int.le_refl _,by omega,by simp [runY]⟩ ?_)
    rintro ⟨z,s2⟩ ⟨h0,h1,hr⟩
    dsimp only at *
    unfold heapC2
    by_cases hz:z<N
    ·obtain ⟨⟨t,a,b⟩,hs⟩ : ∃ s,all[z.toNat]?=some s:=⟨_,zp1 (by omega)⟩
     have hLz:LA[z.toNat]?=some (.agg [I t,I a,I b]):=by rw [<-hLA,List.getElem?_map,hs];rfl
     obtain ⟨z1,hz1⟩ : ∃ z1,z+1=z1:=⟨_,rfl⟩
     have hz1n:z1.toNat=z.toNat+1:=by omega
     have hmem:=List.mem_of_getElem? hs
     have hnext:(all.take z1.toNat).flatMap Gn=(all.take z.toNat).flatMap Gn++Gn (t,a,b):=by
      rw [hz1n,List.take_add_one,hs];simp
     have hwhole:all.flatMap Gn=(all.take z.toNat).flatMap Gn++(Gn (t,a,b)++(all.drop z1.toNat).flatMap Gn):=by
      rw [<-List.append_assoc,<-hnext,<-List.flatMap_append,List.take_append_drop]
     repeat refine AWp.seq ?_
     refine AWp.reg1 {} hT (fun A hA=>by
       have f0:=ar_lt hA hz
       repeat (cbv;simp only [f0])
       cbv) (Nat.le_of_ble_eq_true rfl) ?_
     try dsimp only [AExit.then,AExit.block]
     repeat refine AWp.seq ?_
     refine AWp.cond (b:=true) rfl (AWp.skip ?_)
     try dsimp only [AExit.then,AExit.block]
     repeat refine AWp.seq ?_
     refine AWp.block ?_
     repeat refine AWp.seq ?_
     refine AWp.reg1 {esc:=[8]} hT (fun A hA=>by
       have f0:=ar_get hA hLz
       have f1:=ar_le hA h0
       repeat (cbv;simp only [f0,f1])
       cbv) (Nat.le_of_ble_eq_true rfl) ?_
     try dsimp only [AExit.then,AExit.block]
     refine AWp.cut (fun σ'=>nextOk x l (t,a,b)=true/\σ'.keep [0,1,2,3,4,8,26,27,28]={ env:=[(0,.d (.list 3 L)),(1,.ptr 3 0),(2,.ptr 4 0),(3,.ptr 5 0),(4,.ptr 6 0),(8,.ptr 7 0),(26,.d (.list 3 LA)),(27,AI N),(28,AI z)],heap:=heapC2 X (A1 s2) (A2 s2) (B s2) LA++[.cells [AI t,AI a,AI b]],n:=62 }) ?_ ?_
     ·have hnxt:=hnx (t,a,b)
      by_cases hn0:n=0
      ·rw [show decide (l.length=0)=true from decide_eq_true (by omega)] at hnxt
       repeat refine AWp.seq ?_
       refine AWp.reg1D {} hT rfl (fun A hA=>by
         have f0:=ar_len hA L n hn
         have f1:=ar_nlt hA (show ¬ 0<n by omega)
         repeat (cbv;simp only [f0,f1])
         cbv) (by kernel_rfl) (Nat.le_of_ble_eq_true rfl) ?_
       try dsimp only [AExit.then,AExit.block]
       repeat refine AWp.seq ?_
       refine AWp.cond (b:=false) rfl (AWp.skip ?_)
       try dsimp only [AExit.then,AExit.block]
       exact ⟨hnxt,by cbv⟩
      ·obtain ⟨hl1,hl2⟩:=hlast (by omega)
       have hcc:=hconf _ (hlt _ hl1) _ (hall _ hmem)
       rw [show decide (l.length=0)=false from decide_eq_false (by omega),Bool.false_or] at hnxt
       obtain ⟨⟨t',a',b'⟩,hlst⟩ : ∃ s,lastOf l=s:=⟨_,rfl⟩
       rw [hlst] at hl2 hcc hnxt
       dsimp only at hcc hnxt
       obtain ⟨r,hr'⟩ : ∃ r,conflict x t' b' t a=r:=⟨_,rfl⟩
       rw [hr'] at hcc hnxt
       obtain ⟨n1,hn1⟩ : ∃ n1,n-1=n1:=⟨_,rfl⟩
       have hLl:L[n1.toNat]?=some (.agg [I t',I a',I b']):=by rw [<-hL,List.getElem?_map,show n1.toNat=l.length-1 by omega,hl2];rfl
       repeat refine AWp.seq ?_
       refine AWp.regionDraw rfl (Nat.le_of_ble_eq_true rfl) ?_
       refine DOps.stepCall hT (an:={}) rfl (fun A hA=>by
         have f0:=ar_len hA L n hn
         have f1:=ar_lt hA (show 0<n by omega)
         have f2:=ar_sub hA n 1 n1 hn1 (by omega) (by omega)
         have f3:=ar_get hA hLl
         have f4:=ar_le hA (show 0<=n1 by omega)
         repeat (cbv;simp only [f0,f1,f2,f3,f4])
         cbv) rfl rfl (Nat.le_of_ble_eq_true rfl) rfl rfl (out_ok t' a' b') ?_
       refine DOps.stepCall hT (an:={}) rfl (fun A hA=>by cbv) rfl rfl (Nat.le_of_ble_eq_true rfl) rfl rfl (in_ok t a b) ?_
       refine DOps.stepCall hT (an:={}) rfl (fun A hA=>by cbv) rfl rfl (Nat.le_of_ble_eq_true rfl) rfl rfl (hcc) ?_
       cases r with
       | true =>
         refine DOps.done hT (an:={}) rfl (fun A hA=>by cbv) (by kernel_rfl) ?_
         try dsimp only [AExit.then,AExit.block]
         repeat refine AWp.seq ?_
         refine AWp.cond (b:=false) rfl (AWp.skip ?_)
         try dsimp only [AExit.then,AExit.block]
         exact ⟨hnxt,by cbv⟩
       | false =>
         refine DOps.done hT (an:={}) rfl (fun A hA=>by cbv) (by kernel_rfl) ?_
         try dsimp only [AExit.then,AExit.block]
         repeat refine AWp.seq ?_
         refine AWp.cond (b:=true) rfl ?_
         rw [if_pos rfl]
         refine AWp.exit ?_
         dsimp only [AExit.then,AExit.block]
         rw [if_pos rfl]
         have hGt:Gn (t,a,b)=[]:=by rw [hG,hnxt];rfl
         repeat refine AWp.seq ?_
         refine AWp.reg1 {} hT (fun A hA=>by
           have f0:=ar_add hA z 1 z1 hz1 (by omega) (by omega)
           repeat (cbv;simp only [f0])
           cbv) (Nat.le_of_ble_eq_true rfl) ?_
         try dsimp only [AExit.then,AExit.block]
         exact ⟨by exact hin s2,(z1,s2),⟨by dsimp only;omega,by dsimp only;omega,by dsimp only;rw [hnext,hGt,List.append_nil];exact hr⟩,by dsimp only;omega,by cbv⟩
     ·rintro σ2 ⟨hok,hσ2⟩
      refine AWp.keep [0,1,2,3,4,8,26,27,28] ?_
      rw [hσ2]
      unfold heapC2
      have hGt:=hG (t,a,b)
      rw [hok,if_pos rfl] at hGt
      have hcall:=ih' s2 (t,a,b) hmem
      rw [<-hGt] at hcall
      obtain ⟨⟨s3,b3⟩,h3⟩ : ∃ p,runY step s2 (Gn (t,a,b))=p:=⟨_,rfl⟩
      rw [h3] at hcall
      unfold dSta at hcall
      dsimp only at hcall
      obtain ⟨L3,hL3⟩ : ∃ L3,L++[.agg [I t,I a,I b]]=L3:=⟨_,rfl⟩
      rw [hL3] at hcall
      have hsub : ∀ A:Ar,A=Ar.std->A.sub L 0 n=L:=fun A hA=>by subst hA;show (L.drop (0:Int).toNat).take (n.toNat-(0:Int).toNat)=L;exact List.take_of_length_le (by simp;omega)
      have hr2:runY step s1 ((all.take z1.toNat).flatMap Gn)=(s3,b3):=by rw [hnext,runY_append,hr];exact h3
      repeat refine AWp.seq ?_
      refine AWp.regionDraw rfl (Nat.le_of_ble_eq_true rfl) ?_
      refine DOps.stepCallH hT (an:={}) rfl (fun A' hA=>by
        have f0:=ar_len hA L n hn
        have f1:=hsub A' hA
        have f2:=ar_le hA (Int.le_refl 0)
        have f3:=ar_le hA (show 0<=n by omega)
        have f4:=ar_le hA (Int.le_refl n)
        have f5:=ar_eq hA (show n=n from rfl)
        have f6:=ar_app hA _ _ _ hL3
        have f7:=ar_fits' hA n [.agg [I t,I a,I b]] (by simp;omega)
        repeat (cbv;simp only [f0,f1,f2,f3,f4,f5,f6,f7])
        cbv) (H:=[A1 s2,A2 s2,B s2,.cells [.d X],.cells [.yield 2],.cells [.d (.list 3 LA)],.cells [.func 110 [] [.ptr 3 0,.ptr 4 0,.ptr 5 0,.ptr 6 0]]])
        (H':=[A1 s3,A2 s3,B s3,.cells [.d X],.cells [.yield 2],.cells [.d (.list 3 LA)],.cells [.func 110 [] [.ptr 3 0,.ptr 4 0,.ptr 5 0,.ptr 6 0]]]) rfl (.inr rfl) (hin s2) rfl rfl (Nat.le_of_ble_eq_true rfl) rfl rfl hcall ?_
      refine DOps.done hT (an:={}) rfl (fun A hA=>by cbv) (by kernel_rfl) ?_
      try dsimp only [AExit.then,AExit.block]
      cases b3 with
      | true =>
        repeat refine AWp.seq ?_
        refine AWp.cond (b:=false) rfl (AWp.skip ?_)
        try dsimp only [AExit.then,AExit.block]
        repeat refine AWp.seq ?_
        refine AWp.reg1 {} hT (fun A hA=>by
          have f0:=ar_add hA z 1 z1 hz1 (by omega) (by omega)
          repeat (cbv;simp only [f0])
          cbv) (Nat.le_of_ble_eq_true rfl) ?_
        try dsimp only [AExit.then,AExit.block]
        exact ⟨by exact hin s3,(z1,s3),⟨by dsimp only;omega,by dsimp only;omega,hr2⟩,by dsimp only;omega,by cbv⟩
      | false =>
        repeat refine AWp.seq ?_
        refine AWp.cond (b:=true) rfl ?_
        rw [if_pos rfl]
        repeat refine AWp.seq ?_
        refine AWp.reg1 {} hT (fun A hA=>by cbv) (Nat.le_of_ble_eq_true rfl) ?_
        try dsimp only [AExit.then,AExit.block]
        have:(fs,fb)=(s3,false):=by rw [<-hfin,hwhole,<-List.append_assoc,<-hnext,runY_append,hr2];rfl
        injection this with e1 e2;subst e1 e2
        refine AWp.ret ⟨rfl,rfl,hin _,Nat.le_refl _,_,rfl⟩
    ·repeat refine AWp.seq ?_
     refine AWp.reg1 {} hT (fun A hA=>by
       have f0:=ar_nlt hA hz
       repeat (cbv;simp only [f0])
       cbv) (Nat.le_of_ble_eq_true rfl) ?_
     try dsimp only [AExit.then,AExit.block]
     repeat refine AWp.seq ?_
     refine AWp.cond (b:=false) rfl (AWp.exit ?_)
     try dsimp only [AExit.then,AExit.block]
     rw [if_pos rfl]
     repeat refine AWp.seq ?_
     refine AWp.reg1 {} hT (fun A hA=>by cbv) (Nat.le_of_ble_eq_true rfl) ?_
     try dsimp only [AExit.then,AExit.block]
     rw [List.take_of_length_le (by omega),hfin] at hr
     injection hr with e1 e2;subst e1 e2
     refine AWp.ret ⟨rfl,rfl,hin _,Nat.le_refl _,[],rfl⟩
theorem circles_ok2 {S:Type} (A1 A2 B:S->Obj) (hAB : ∀ s m,3<=m->(A1 s).inbG m=true/\(A2 s).inbG m=true/\(B s).inbG m=true) (step:S->List Sta->S×Bool) (x:List (List Acc)) (hx:Small x)
  (hy : ∀ s l,l.length<=3->YCall P 2 [.d (.list 3 (l.map dSta))] [A1 s,A2 s,B s] (AB (step s l).2) [A1 (step s l).1,A2 (step s l).1,B (step s l).1]) (s:S) :
  ACall P 61 [.d (dX x),.yield 2] [A1 s,A2 s,B s] (.tuple []) [A1 (runY step s (circles x)).1,A2 (runY step s (circles x)).1,B (runY step s (circles x)).1]:=by
 have cg:=grow_ok2 A1 A2 B hAB step x hx (stations x) (fun s hs=>mem_stations hs) (Nat.le_trans (stations_length hx) (by omega)) hy 3 [] s rfl (by simp)
 have cs:=stations_ok x hx
 have hin2 : ∀ s,objsInb [A1 s,A2 s,B s].length [A1 s,A2 s,B s]=true:=fun s=>by
  obtain ⟨h1,h2,h3⟩:=hAB s 3 (by omega)
  exact objsG h1 (objsG h2 (objsG h3 rfl))
 have hin : ∀ X LA s,objsInb (heapC2 X (A1 s) (A2 s) (B s) LA).length (heapC2 X (A1 s) (A2 s) (B s) LA)=true:=fun X LA s=>by
  obtain ⟨h1,h2,h3⟩:=hAB s 7 (by omega)
  exact objsG h1 (objsG h2 (objsG h3 rfl))
 unfold circles
 obtain ⟨X,hX⟩ : ∃ X,dX x = .list 1 X:=⟨_,rfl⟩
 obtain ⟨LA,hLA⟩ : ∃ L,(stations x).map dSta=L:=⟨_,rfl⟩
 obtain ⟨⟨fs,fb⟩,hfin⟩ : ∃ p,runY step s (circFrom x (stations x) 3 [])=p:=⟨_,rfl⟩
 rw [hX,hLA,hfin] at cg
 rw [hX,hLA] at cs
 rw [hX,hfin]
 refine ACall.enter hT (fn:=Try.f61) Try.func61 rfl (by decide) (by simp [Try.f61]) rfl rfl rfl (hin2 _) (Nat.le_refl _) ?_
 unfold heapC2 at *
 repeat refine AWp.seq ?_
 refine AWp.reg1 {esc:=[2,3]} hT (fun A hA=>by cbv) (Nat.le_of_ble_eq_true rfl) ?_
 try dsimp only [AExit.then,AExit.block]
 repeat refine AWp.seq ?_
 refine AWp.region ?_
 refine AOps.stepCall hT (an:={}) (fun A hA=>by cbv) (Nat.le_of_ble_eq_true rfl) rfl (.inr rfl) rfl rfl rfl (Nat.le_of_ble_eq_true rfl) rfl rfl (cs) ?_
 refine AOps.done hT (an:={esc:=[4]}) (fun A hA=>by cbv) (Nat.le_of_ble_eq_true rfl) ?_
 try dsimp only [AExit.then,AExit.block]
 repeat refine AWp.seq ?_
 refine AWp.reg1 {esc:=[5]} hT (fun A hA=>by cbv) (Nat.le_of_ble_eq_true rfl) ?_
 try dsimp only [AExit.then,AExit.block]
 repeat refine AWp.seq ?_
 refine AWp.reg1 {} hT (fun A hA=>by cbv) (Nat.le_of_ble_eq_true rfl) ?_
 try dsimp only [AExit.then,AExit.block]
 repeat refine AWp.seq ?_
 refine AWp.region ?_
 refine AOps.stepCallW hT (an:={}) (fun A hA=>by cbv) (Nat.le_of_ble_eq_true rfl) (hin (.list 1 X) LA s) rfl rfl (Nat.le_of_ble_eq_true rfl) rfl rfl cg ?_
 refine AOps.done hT (an:={}) (fun A hA=>by cbv) (Nat.le_of_ble_eq_true rfl) ?_
 try dsimp only [AExit.then,AExit.block]
 exact ⟨rfl,rfl,hin2 _,Nat.le_refl _,_,rfl⟩
end Go.Am

namespace Go.Am
open Go Go.Proofs
noncomputable def putAll (es:List (D×D)) (l:List Sta):List (D×D):=l.foldl (fun es s=>mput es (dSta s) (.bool true)) es
noncomputable def putStep (es:List (D×D)) (l:List Sta):List (D×D)×Bool:=(putAll es l,true)
theorem putAll_get (s:Sta) : ∀ (l:List Sta) (es:List (D×D)),mget (putAll es l) (dSta s)=if l.contains s then some (.bool true) else mget es (dSta s)
 | [],es=>by simp [putAll]
 | u::l,es=>by
   have:=putAll_get s l (mput es (dSta u) (.bool true))
   unfold putAll at this ⊢
   simp only [List.foldl_cons]
   rw [this,mget_mput]
   by_cases h:u=s
   ·subst h;simp
   ·have h2 : ¬ dSta u=dSta s:=fun e=>h (dSta_inj e)
    rw [if_neg h2]
    have h3:(u::l).contains s=l.contains s:=by
     simp only [List.contains_cons]
     have:(s == u)=false:=by simp;exact fun e=>h e.symm
     rw [this];rfl
    rw [h3]
theorem runY_put : ∀ (cs:List (List Sta)) (es:List (D×D)),runY putStep es cs=(putAll es cs.flatten,true)
 | [],es=>by simp [runY,putAll]
 | l::r,es=>by
   simp only [runY,putStep,if_true,List.flatten_cons]
   rw [runY_put r (putAll es l)]
   unfold putAll
   rw [List.foldl_append]
def inCircle (x:List (List Acc)) (s:Sta):Bool:=(circles x).flatten.contains s
def neededL (x:List (List Acc)):List Sta:=(pairsL x).filter (inCircle x)
theorem pairs1_ok2 (x:List (List Acc)) (s:Sta) (hx:Small x) (o0 o1:Obj) (h0:o0.inbG 4=true) (h1:o1.inbG 4=true) (L:List D):ACall P 116 [.d (dSta s),.ptr 2 0] [o0,o1,.cells [.d (dX x)],.arr 3 L] (AB (!isPair x s)) [o0,o1,.cells [.d (dX x)],.arr 3 L]:=by
 have cp:=isPair_ok x s hx
 obtain ⟨t,a,b⟩:=s
 unfold dSta at *
 dsimp only at *
 obtain ⟨X,hX⟩ : ∃ X,dX x=X:=⟨_,rfl⟩
 obtain ⟨r,hr⟩ : ∃ r,isPair x (t,a,b)=r:=⟨_,rfl⟩
 rw [hX] at cp ⊢
 rw [hr] at cp ⊢
 have hin:objsInb 4 [o0,o1,.cells [.d X],.arr 3 L]=true:=objsG h0 (objsG h1 rfl)
 refine ACall.enter hT (fn:=Try.f116) Try.func116 rfl (by decide) (by simp [Try.f116]) rfl rfl rfl hin (Nat.le_refl _) ?_
 repeat refine AWp.seq ?_
 refine AWp.reg1 {} hT (fun A hA=>by cbv) (Nat.le_of_ble_eq_true rfl) ?_
 try dsimp only [AExit.then,AExit.block]
 repeat refine AWp.seq ?_
 refine AWp.region ?_
 refine AOps.stepCall hT (an:={}) (fun A hA=>by cbv) (Nat.le_of_ble_eq_true rfl) rfl (.inr rfl) rfl rfl rfl (Nat.le_of_ble_eq_true rfl) rfl rfl (cp) ?_
 refine AOps.done hT (an:={}) (fun A hA=>by cbv) (Nat.le_of_ble_eq_true rfl) ?_
 try dsimp only [AExit.then,AExit.block]
 refine AWp.ret ⟨rfl,rfl,hin,Nat.le_refl _,[],by simp⟩
theorem pairs_ok2 (x:List (List Acc)) (hx:Small x) (hlen:(stations x).length<=4000000000) (hne:stations x≠[]) (o0 o1:Obj) (h0:o0.inbG 4=true) (h1:o1.inbG 4=true) (h0':o0.inbG 3=true) (h1':o1.inbG 3=true) (h0'':o0.inbG 2=true) (h1'':o1.inbG 2=true) :
  ∃ (m:Int) (tl:List D),((pairsL x).length:Int)=m/\ACall P 73 [.d (dX x)] [o0,o1] (.mref 3 3 0 m) [o0,o1,.cells [.d (dX x)],.arr 3 ((pairsL x).map dSta++tl)]:=by
 have cst:=stations_ok x hx
 have hcl:=fun s L=>pairs1_ok2 x s hx o0 o1 h0 h1 L
 obtain ⟨p,hp⟩ : ∃ p,isPair x=p:=⟨_,rfl⟩
 obtain ⟨l,hl⟩ : ∃ l,stations x=l:=⟨_,rfl⟩
 unfold pairsL
 rw [hl] at cst hlen hne ⊢
 rw [hp] at hcl ⊢
 obtain ⟨X,hX⟩ : ∃ X,dX x=X:=⟨_,rfl⟩
 rw [hX] at cst hcl ⊢
 have hX2 : ∃ k Z,X = .list k Z:=⟨_,_,by rw [<-hX];rfl⟩
 obtain ⟨kx,Z,rfl⟩:=hX2
 obtain ⟨n,hn⟩ : ∃ n:Int,(l.length:Int)=n:=⟨_,rfl⟩
 obtain ⟨m,Y,hm0,hm1,hY,hde⟩:=delete98m3 l 116 [.ptr 2 0] o0 o1 (.cells [.d (.list kx Z)]) (fun s => !p s) h0 h1 rfl rfl rfl n hn (by omega) [] (fun s _ L=>hcl s L)
 have hY':Y.take m.toNat=(l.filter p).map dSta:=by rw [hY];simp
 have hm:((l.filter p).length:Int)=m:=by
  have:=congrArg List.length hY'
  simp only [List.length_take,List.length_map] at this
  omega
 refine ⟨m,Y.drop m.toNat,hm,?_⟩
 have hYY:(l.filter p).map dSta++Y.drop m.toNat=Y:=by rw [<-hY'];exact List.take_append_drop _ _
 rw [hYY]
 rw [List.append_nil] at hde
 have hin3:objsInb 3 [o0,o1,.cells [.d (.list kx Z)]]=true:=objsG h0' (objsG h1' rfl)
 have hin4 : ∀ L,objsInb 4 [o0,o1,.cells [.d (.list kx Z)],.arr 3 L]=true:=fun L=>objsG h0 (objsG h1 rfl)
 have hin2:objsInb 2 [o0,o1]=true:=objsG h0'' (objsG h1'' rfl)
 have cth:=ACall.thaw cst rfl rfl (by simpa using hne) (scalars_dSta l) (H:=[o0,o1,.cells [.d (.list kx Z)]]) (hin4 _) (n:=n) (by simpa using hn)
 obtain ⟨L,hL⟩ : ∃ L,l.map dSta=L:=⟨_,rfl⟩
 rw [hL] at cth hde
 refine ACall.enter hT (fn:=Try.f73) Try.func73 rfl (by decide) (by simp [Try.f73]) rfl rfl rfl (hin4 Y) (Nat.le_of_ble_eq_true rfl) ?_
 repeat refine AWp.seq ?_
 refine AWp.reg1 {esc:=[1]} hT (fun A hA=>by cbv) (Nat.le_of_ble_eq_true rfl) ?_
 try dsimp only [AExit.then,AExit.block]
 repeat refine AWp.seq ?_
 refine AWp.region ?_
 have hin:=hin3
 refine AOps.stepCallW hT (an:={}) (fun A hA=>by cbv) (Nat.le_of_ble_eq_true rfl) (by first | rfl | exact hin) (by first | rfl | simp [inbL,AV.inb,hbs]) rfl (Nat.le_of_ble_eq_true rfl) rfl (by first | rfl | simp [AV.free,hbf]) (cth) ?_
 have hin:=hin4 L
 refine AOps.stepCallW hT (an:={}) (fun A hA=>by cbv) (Nat.le_of_ble_eq_true rfl) (by first | rfl | exact hin) (by first | rfl | simp [inbL,AV.inb,hbs]) rfl (Nat.le_of_ble_eq_true rfl) rfl (by first | rfl | simp [AV.free,hbf]) (hde) ?_
 refine AOps.done hT (an:={}) (fun A hA=>by cbv) (Nat.le_of_ble_eq_true rfl) ?_
 try dsimp only [AExit.then,AExit.block]
 refine AWp.ret ⟨rfl,rfl,hin4 Y,Nat.le_of_ble_eq_true rfl,[],rfl⟩
theorem needed1_ok (s:Sta) (es:List (D×D)) (o2:Obj) (h2:o2.inbG 4=true) (L:List D) (b:Bool) (hb:mget es (dSta s)=if b then some (.bool true) else none) :
  ACall P 117 [.d (dSta s),.ptr 1 0] [.map true [.int .i64,.int .i64,.int .i64] es,.cells [.map 0],o2,.arr 3 L] (AB (!b)) [.map true [.int .i64,.int .i64,.int .i64] es,.cells [.map 0],o2,.arr 3 L]:=by
 obtain ⟨t,a,c⟩:=s
 unfold dSta at *
 dsimp only at *
 have hin:objsInb 4 [.map true [.int .i64,.int .i64,.int .i64] es,.cells [.map 0],o2,.arr 3 L]=true:=objsG rfl (objsG rfl (objsG h2 rfl))
 have hget : ∀ A:Ar,A=Ar.std->A.mget es (.agg [I t,I a,I c])=if b then some (.bool true) else none:=fun A hA=>by subst hA;exact hb
 refine ACall.enter hT (fn:=Try.f117) Try.func117 rfl (by decide) (by simp [Try.f117]) rfl rfl rfl hin (Nat.le_refl _) ?_
 repeat refine AWp.seq ?_
 refine AWp.reg1 {} hT (fun A hA=>by cbv) (Nat.le_of_ble_eq_true rfl) ?_
 try dsimp only [AExit.then,AExit.block]
 cases b with
 | true =>
   simp only [if_true] at hget
   repeat refine AWp.seq ?_
   refine AWp.reg1 {} hT (fun A hA=>by
     have f0:=hget A hA
     repeat (cbv;simp only [f0])
     cbv) (Nat.le_of_ble_eq_true rfl) ?_
   try dsimp only [AExit.then,AExit.block]
   refine AWp.ret ⟨rfl,rfl,hin,Nat.le_refl _,[],by simp⟩
 | false =>
   simp only [Bool.false_eq_true,if_false] at hget
   repeat refine AWp.seq ?_
   refine AWp.reg1 {} hT (fun A hA=>by
     have f0:=hget A hA
     repeat (cbv;simp only [f0])
     cbv) (Nat.le_of_ble_eq_true rfl) ?_
   try dsimp only [AExit.then,AExit.block]
   refine AWp.ret ⟨rfl,rfl,hin,Nat.le_refl _,[],by simp⟩
end Go.Am

namespace Go.Am
open Go Go.Proofs
abbrev kSta:List CK:=[.int .i64,.int .i64,.int .i64]
theorem needed_ok (x:List (List Acc)) (hx:Small x) (hlen:(stations x).length<=4000000000):ACall P 77 [.d (dX x)] [] (.d (.list 3 ((neededL x).map dSta))) []:=by
 have ccs:=fun (A1 A2 B:List (D×D)->Obj) hAB hy=>circles_ok2 A1 A2 B hAB putStep x hx hy []
 have hget : ∀ s,mget (putAll [] (circles x).flatten) (dSta s)=if inCircle x s then some (.bool true) else none:=fun s=>by
  rw [putAll_get];rfl
 have hrun:=runY_put (circles x) []
 obtain ⟨es,hes⟩ : ∃ es,putAll [] (circles x).flatten=es:=⟨_,rfl⟩
 rw [hes] at hget hrun
 have hcl:=fun s (o2:Obj) (h2:o2.inbG 4=true) L=>needed1_ok s es o2 h2 L (inCircle x s) (hget s)
 have hnd:neededL x=(pairsL x).filter (inCircle x):=rfl
 rw [hnd]
 have hps:stations x≠[] -> ∃ (m:Int) (tl:List D),((pairsL x).length:Int)=m/\ACall P 73 [.d (dX x)] [.map true kSta es,.cells [.map 0]] (.mref 3 3 0 m) [.map true kSta es,.cells [.map 0],.cells [.d (dX x)],.arr 3 ((pairsL x).map dSta++tl)] :=
  fun hne=>pairs_ok2 x hx hlen hne _ _ rfl rfl rfl rfl rfl rfl
 have hp0:stations x=[]->ACall P 73 [.d (dX x)] [] (.d (.list 3 [])) []/\pairsL x=[]:=fun h=>by
  have:=pairs_ok x hx hlen
  have h2:pairsL x=[]:=by unfold pairsL;rw [h];rfl
  rw [h2] at this
  exact ⟨this,h2⟩
 have hpl:(pairsL x).length<=4000000000:=Nat.le_trans (List.length_filter_le _ _) hlen
 obtain ⟨pl,hpl'⟩ : ∃ pl,pairsL x=pl:=⟨_,rfl⟩
 rw [hpl'] at hps hp0 hpl ⊢
 obtain ⟨p,hp⟩ : ∃ p,inCircle x=p:=⟨_,rfl⟩
 rw [hp] at hcl ⊢
 simp only [hrun] at ccs
 obtain ⟨X,hX⟩ : ∃ X,dX x=X:=⟨_,rfl⟩
 rw [hX] at hps hp0 ⊢
 simp only [hX] at ccs
 have hX2 : ∃ k Z,X = .list k Z:=⟨_,_,by rw [<-hX];rfl⟩
 obtain ⟨kx,Z,rfl⟩:=hX2
 refine ACall.enterT hT (fn:=Try.f77) Try.func77 rfl (by decide) (by simp [Try.f77]) rfl rfl rfl rfl (Nat.le_refl _) ?_
 refine AWpT.seq (AWpT.of ?_)
 repeat refine AWp.seq ?_
 refine AWp.reg1 {} hT (fun A hA=>by cbv) (Nat.zero_le _) ?_
 try dsimp only [AExit.then,AExit.block]
 refine AWpT.seq (AWpT.of ?_)
 repeat refine AWp.seq ?_
 refine AWp.reg1 {esc:=[3]} hT (fun A hA=>by cbv) (Nat.zero_le _) ?_
 try dsimp only [AExit.then,AExit.block]
 refine AWpT.seq (AWpT.seq (AWpT.of ?_))
 repeat refine AWp.seq ?_
 refine AWp.reg1 {} hT (fun A hA=>by cbv) (Nat.zero_le _) ?_
 try dsimp only [AExit.then,AExit.block]
 refine AWpT.block ?_
 refine AWpT.rangeFunc (st := .ready) (pend:=none) [3] rfl (Nat.zero_le _) ?_ ?_ ?_ (ccs (fun es => .map true kSta es) (fun _ => .cells [.map 0]) (fun _ => .loop _) ?_ ?_) ?_ ?_ ?_
 ·rfl
 ·rfl
 ·rfl
 ·intro s k hk
  refine ⟨rfl,?_,?_⟩
  ·show ((decide (0<k)&&true)&&true)=true
   simp;omega
  ·show ((decide (1<k)&&true)&&true)=true
   simp;omega
 ·intro es l hl
  obtain ⟨L,hL⟩ : ∃ L,l.map dSta=L:=⟨_,rfl⟩
  obtain ⟨n,hn⟩ : ∃ n:Int,(L.length:Int)=n:=⟨_,rfl⟩
  have hln:(l.length:Int)=n:=by rw [<-hn,<-hL];simp
  have hpa:putAll es l=putAll es (l.take n.toNat):=by rw [List.take_of_length_le (by omega)]
  have hstep : ∀ (z:Nat) (s:Sta),l[z]?=some s->putAll es (l.take (z+1))=mput (putAll es (l.take z)) (dSta s) (.bool true):=fun z s hs=>by
   rw [List.take_add_one,hs]
   unfold putAll
   rw [Option.toList_some,List.foldl_append]
   rfl
  unfold putStep
  dsimp only
  rw [hL,hpa]
  refine YCall.mk (y:=2) rfl rfl rfl rfl rfl rfl (Nat.le_refl _) ?_
  repeat refine AWp.seq ?_
  refine AWp.reg1 {} hT (fun A hA=>by cbv) (Nat.le_of_ble_eq_true rfl) ?_
  try dsimp only [AExit.then,AExit.block]
  refine ⟨rfl,rfl,?_⟩
  generalize hLB:Obj.loop { st := .busy,pending:=_,env:=_,n:=_,params:=_,assign:=_,body:=_ }=LB
  refine AWp.block ?_
  repeat refine AWp.seq ?_
  refine AWp.reg1 {} hT (fun A hA=>by
    have f0:=ar_len hA L n hn
    repeat (cbv;simp only [f0])
    cbv) (Nat.le_of_ble_eq_true rfl) ?_
  try dsimp only [AExit.then,AExit.block]
  refine AWp.block (AWp.loopInv (ι:=Int×List (D×D)) (fun p=>0<=p.1/\p.1<=n/\p.2=putAll es (l.take p.1.toNat)) (fun p=>(n-p.1).toNat) [3,11,12,13]
   (fun p=>{ env:=[(3,.ptr 1 0),(11,.d (.list 3 L)),(12,AI n),(13,AI p.1)],heap:=[.map true kSta p.2,.cells [.map 0],LB],n:=24 }) (0,es) (by cbv) ⟨Int.le_refl _,by dsimp only;omega,rfl⟩ ?_)
  rintro ⟨z,e⟩ ⟨h0,h1,h2⟩
  dsimp only at *
  by_cases hz:z<n
  ·obtain ⟨z1,hz1⟩ : ∃ z1,z+1=z1:=⟨_,rfl⟩
   obtain ⟨⟨a,b,c⟩,hs⟩ : ∃ s,l[z.toNat]?=some s:=⟨_,zp1 (by omega)⟩
   have hLs:L[z.toNat]?=some (.agg [I a,I b,I c]):=by rw [<-hL,List.getElem?_map,hs];rfl
   obtain ⟨e',he'⟩ : ∃ e',mput e (.agg [I a,I b,I c]) (.bool true)=e':=⟨_,rfl⟩
   have hput : ∀ A:Ar,A=Ar.std->A.mput e (.agg [I a,I b,I c]) (.bool true)=e':=fun A hA=>by subst hA;exact he'
   repeat refine AWp.seq ?_
   refine AWp.reg1 {} hT (fun A hA=>by
     have f0:=ar_lt hA hz
     repeat (cbv;simp only [f0])
     cbv) (Nat.le_of_ble_eq_true rfl) ?_
   try dsimp only [AExit.then,AExit.block]
   repeat refine AWp.seq ?_
   refine AWp.cond (b:=true) rfl (AWp.skip ?_)
   try dsimp only [AExit.then,AExit.block]
   repeat refine AWp.seq ?_
   refine AWp.block ?_
   repeat refine AWp.seq ?_
   refine AWp.reg1 {} hT (fun A hA=>by
     have f0:=ar_get hA hLs
     have f1:=ar_le hA h0
     repeat (cbv;simp only [f0,f1])
     cbv) (Nat.le_of_ble_eq_true rfl) ?_
   try dsimp only [AExit.then,AExit.block]
   repeat refine AWp.seq ?_
   refine AWp.reg1 {} hT (fun A hA=>by
     have f0:=hput A hA
     repeat (cbv;simp only [f0])
     cbv) (Nat.le_of_ble_eq_true rfl) ?_
   try dsimp only [AExit.then,AExit.block]
   repeat refine AWp.seq ?_
   refine AWp.reg1 {} hT (fun A hA=>by
     have f0:=ar_add hA z 1 z1 hz1 (by omega) (by omega)
     repeat (cbv;simp only [f0])
     cbv) (Nat.le_of_ble_eq_true rfl) ?_
   try dsimp only [AExit.then,AExit.block]
   refine ⟨(z1,e'),⟨by dsimp only;omega,by dsimp only;omega,?_⟩,by dsimp only;omega,by cbv⟩
   dsimp only
   rw [show z1.toNat=z.toNat+1 by omega,hstep _ _ hs,<-h2,<-he'];rfl
  ·repeat refine AWp.seq ?_
   refine AWp.reg1 {} hT (fun A hA=>by
     have f0:=ar_nlt hA hz
     repeat (cbv;simp only [f0])
     cbv) (Nat.le_of_ble_eq_true rfl) ?_
   try dsimp only [AExit.then,AExit.block]
   repeat refine AWp.seq ?_
   refine AWp.cond (b:=false) rfl (AWp.exit ?_)
   try dsimp only [AExit.then,AExit.block]
   rw [if_pos rfl]
   have:z=n:=by omega
   subst this
   subst h2 hLB
   exact ⟨rfl,rfl,[],rfl⟩
 ·simp
 ·rfl
 ·dsimp only [AWpT.behind,AExit.then,AExit.block]
  refine AWpT.of ?_
  refine AWp.fit [0,3] 2 (Nat.zero_le _) rfl ?_
  by_cases he:stations x=[]
  ·obtain ⟨c73,hnil⟩:=hp0 he
   have hde:=delete98e 117 [.ptr 1 0] [.map true kSta es,.cells [.map 0]] rfl rfl rfl
   rw [hnil]
   repeat refine AWp.seq ?_
   refine AWp.region ?_
   refine AOps.stepCall hT (an:={}) (fun A hA=>by cbv) (Nat.zero_le _) rfl (.inr rfl) rfl rfl rfl (Nat.le_of_ble_eq_true rfl) rfl rfl (c73) ?_
   refine AOps.stepCallW hT (an:={}) (fun A hA=>by cbv) (Nat.zero_le _) (by first | rfl | exact hin) (by first | rfl | simp [inbL,AV.inb,hbs]) rfl (Nat.le_of_ble_eq_true rfl) rfl (by first | rfl | simp [AV.free,hbf]) (hde) ?_
   refine AOps.done hT (an:={}) (fun A hA=>by cbv) (Nat.zero_le _) ?_
   try dsimp only [AExit.then,AExit.block]
   repeat refine AWp.seq ?_
   refine AWp.ret ⟨?_,rfl,rfl,Nat.zero_le _,_,rfl⟩
   rfl
  ·obtain ⟨m,tl,hm,c73⟩:=hps he
   obtain ⟨m',Y,hm0,hm1,hY,hde⟩:=delete98m3 pl 117 [.ptr 1 0] (.map true kSta es) (.cells [.map 0]) (.cells [.d (.list kx Z)]) (fun s => !p s) rfl rfl rfl rfl rfl m hm (by omega) tl (fun s _ L=>hcl s _ rfl L)
   have hY':Ar.std.sub Y 0 (0+m')=(pl.filter p).map dSta:=by
    rw [std_sub0 _ _ hm0,hY];simp
   obtain ⟨R,hR⟩ : ∃ R,(pl.filter p).map dSta=R:=⟨_,rfl⟩
   obtain ⟨PL,hPL⟩ : ∃ R,pl.map dSta++tl=R:=⟨_,rfl⟩
   rw [hPL] at c73 hde
   rw [hR] at hY' ⊢
   repeat refine AWp.seq ?_
   refine AWp.region ?_
   refine AOps.stepCallW hT (an:={}) (fun A hA=>by cbv) (Nat.zero_le _) (by first | rfl | exact hin) (by first | rfl | simp [inbL,AV.inb,hbs]) rfl (Nat.le_of_ble_eq_true rfl) rfl (by first | rfl | simp [AV.free,hbf]) (c73) ?_
   refine AOps.stepCallW hT (an:={}) (fun A hA=>by cbv) (Nat.zero_le _) (by first | rfl | exact hin) (by first | rfl | simp [inbL,AV.inb,hbs]) rfl (Nat.le_of_ble_eq_true rfl) rfl (by first | rfl | simp [AV.free,hbf]) (hde) ?_
   refine AOps.done hT (an:={}) (fun A hA=>by cbv) (Nat.zero_le _) ?_
   try dsimp only [AExit.then,AExit.block]
   refine AWp.freeze (s:=2) (i:=3) (k:=3) (lo:=0) (n:=m') (l:=Y) (l':=R) rfl rfl (by omega) hY' ?_
   refine AWp.ret ⟨rfl,rfl,rfl,Nat.zero_le _,_,rfl⟩
end Go.Am

namespace Go.Am
open Go Go.Proofs
def x0:List (List Acc):=[[(0,true),(1,false)],[(1,true),(0,false)]]
theorem nCirc_x0:nCirc x0=2:=by kernel_rfl
theorem valid_x0:valid x0=true:=by kernel_rfl
theorem awake_ok:ACall P 15 [] [] (AB true) []:=by
 have cc:=Circles_ok x0 ⟨by decide,by decide⟩
 rw [valid_x0,if_pos rfl,nCirc_x0] at cc
 have cc':ACall P 16 [.d (.list 1 [.list 2 [.agg [I 0,.bool true],.agg [I 1,.bool false]],.list 2 [.agg [I 1,.bool true],.agg [I 0,.bool false]]])] [] (.tuple [AI 2,AI 0]) []:=cc
 refine ACall.enter hT (fn:=Try.f15) Try.func15 rfl (by decide) (by simp [Try.f15]) rfl rfl rfl rfl (Nat.le_refl _) ?_
 repeat refine AWp.seq ?_
 refine AWp.reg1 {} hT (fun A hA=>by cbv) (Nat.zero_le _) ?_
 try dsimp only [AExit.then,AExit.block]
 repeat refine AWp.seq ?_
 refine AWp.region ?_
 refine AOps.stepCall hT (an:={}) (fun A hA=>by cbv) (Nat.zero_le _) rfl (.inr rfl) rfl rfl rfl (Nat.le_of_ble_eq_true rfl) rfl rfl (cc') ?_
 refine AOps.done hT (an:={}) (fun A hA=>by cbv) (Nat.zero_le _) ?_
 try dsimp only [AExit.then,AExit.block]
 repeat refine AWp.seq ?_
 refine AWp.reg1 {} hT (fun A hA=>by
   have f0:=ar_eq hA (show (0:Int)=0 from rfl)
   have f1:=ar_eq hA (show (2:Int)=2 from rfl)
   repeat (cbv;simp only [f0,f1])
   cbv) (Nat.zero_le _) ?_
 try dsimp only [AExit.then,AExit.block]
 repeat refine AWp.seq ?_
 refine AWp.ret ⟨?_,rfl,rfl,Nat.zero_le _,_,rfl⟩
 rfl
end Go.Am

namespace Go.Am
open Go Go.Proofs
end Go.Am

namespace Go.Am
open Go Go.Proofs
theorem Needed_ok (x:List (List Acc)) (hx:Big x) (hsm:valid x=true->Small x/\(stations x).length<=4000000000):ACall P 27 [.d (dX x)] [] (.tuple [.d (.list 3 (if valid x then (neededL x).map dSta else [])),AI (if valid x then 0 else 90)]) []:=by
 have cv:=valid_ok x hx
 cases hv:valid x with
 | false =>
   rw [hv] at cv
   obtain ⟨X,hX⟩ : ∃ X,dX x=X:=⟨_,rfl⟩
   rw [hX] at cv ⊢
   refine ACall.enter hT (fn:=Try.f27) Try.func27 rfl (by decide) (by simp [Try.f27]) rfl rfl rfl rfl (Nat.le_refl _) ?_
   repeat refine AWp.seq ?_
   refine AWp.reg1 {} hT (fun A hA=>by cbv) (Nat.zero_le _) ?_
   try dsimp only [AExit.then,AExit.block]
   repeat refine AWp.seq ?_
   refine AWp.region ?_
   refine AOps.stepCall hT (an:={}) (fun A hA=>by cbv) (Nat.zero_le _) rfl (.inr rfl) rfl rfl rfl (Nat.le_of_ble_eq_true rfl) rfl rfl (cv) ?_
   refine AOps.done hT (an:={}) (fun A hA=>by cbv) (Nat.zero_le _) ?_
   try dsimp only [AExit.then,AExit.block]
   repeat refine AWp.seq ?_
   refine AWp.cond (b:=true) rfl ?_
   rw [if_pos rfl]
   repeat refine AWp.seq ?_
   refine AWp.reg1 {} hT (fun A hA=>by cbv) (Nat.zero_le _) ?_
   try dsimp only [AExit.then,AExit.block]
   repeat refine AWp.seq ?_
   refine AWp.ret ⟨?_,rfl,rfl,Nat.zero_le _,_,rfl⟩
   rfl
 | true =>
   obtain ⟨hs,hlen⟩:=hsm hv
   rw [hv] at cv
   have cp:=needed_ok x hs hlen
   have cpl:=plain_ok (neededL x) (Nat.le_trans (List.length_filter_le _ _) (Nat.le_trans (List.length_filter_le _ _) hlen))
   simp only [if_true]
   obtain ⟨X,hX⟩ : ∃ X,dX x=X:=⟨_,rfl⟩
   obtain ⟨R,hR⟩ : ∃ R,(neededL x).map dSta=R:=⟨_,rfl⟩
   rw [hX] at cv cp ⊢
   rw [hR] at cp cpl ⊢
   refine ACall.enter hT (fn:=Try.f27) Try.func27 rfl (by decide) (by simp [Try.f27]) rfl rfl rfl rfl (Nat.le_refl _) ?_
   repeat refine AWp.seq ?_
   refine AWp.reg1 {} hT (fun A hA=>by cbv) (Nat.zero_le _) ?_
   try dsimp only [AExit.then,AExit.block]
   repeat refine AWp.seq ?_
   refine AWp.region ?_
   refine AOps.stepCall hT (an:={}) (fun A hA=>by cbv) (Nat.zero_le _) rfl (.inr rfl) rfl rfl rfl (Nat.le_of_ble_eq_true rfl) rfl rfl (cv) ?_
   refine AOps.done hT (an:={}) (fun A hA=>by cbv) (Nat.zero_le _) ?_
   try dsimp only [AExit.then,AExit.block]
   repeat refine AWp.seq ?_
   refine AWp.cond (b:=false) rfl (AWp.skip ?_)
   try dsimp only [AExit.then,AExit.block]
   repeat refine AWp.seq ?_
   refine AWp.region ?_
   refine AOps.stepCall hT (an:={}) (fun A hA=>by cbv) (Nat.zero_le _) rfl (.inr rfl) rfl rfl rfl (Nat.le_of_ble_eq_true rfl) rfl rfl (cp) ?_
   refine AOps.stepCall hT (an:={}) (fun A hA=>by cbv) (Nat.zero_le _) rfl (.inr rfl) rfl rfl rfl (Nat.le_of_ble_eq_true rfl) rfl rfl (cpl) ?_
   refine AOps.done hT (an:={}) (fun A hA=>by cbv) (Nat.zero_le _) ?_
   try dsimp only [AExit.then,AExit.block]
   repeat refine AWp.seq ?_
   refine AWp.ret ⟨?_,rfl,rfl,Nat.zero_le _,_,rfl⟩
   rfl
end Go.Am

namespace Go.Am
open Go Go.Proofs
end Go.Am

namespace Go.Am
open Go Go.Proofs
def inS (x:List (List Acc)) (s:Sta):Prop:=0<=s.1/\s.1<(x.length:Int)/\0<=s.2.1/\s.2.1<=s.2.2/\s.2.2<((x.getD s.1.toNat []).length:Int)/\(s.2.1=s.2.2\/isPair x s=true)
theorem mem_stations_iff {x:List (List Acc)} {s:Sta}:s∈stations x↔inS x s:=by
 unfold stations staT staA staB
 simp only [List.mem_flatMap,List.mem_range,List.mem_map,List.mem_filter,zp4,Bool.or_eq_true,decide_eq_true_eq]
 constructor
 ·rintro ⟨t,ht,a,ha,b,⟨hb,hab,hor⟩,rfl⟩
  refine ⟨by simp,by simp;omega,by simp,by simp;omega,by simpa using hb,?_⟩
  rcases hor with h | h
  ·exact .inl (by simp;omega)
  ·exact .inr h
 ·obtain ⟨t,a,b⟩:=s
  rintro ⟨h1,h2,h3,h4,h5,h6⟩
  dsimp only at *
  refine ⟨t.toNat,by omega,a.toNat,by omega,b.toNat,⟨by omega,by omega,?_⟩,by simp;omega⟩
  rcases h6 with h | h
  ·exact .inl (by omega)
  ·right
   rw [show ((t.toNat:Nat):Int)=t by omega,show ((a.toNat:Nat):Int)=a by omega,show ((b.toNat:Nat):Int)=b by omega]
   exact h
theorem nodup_flatMap {α β:Type} {l:List α} {g:α->List β} (h1:l.Nodup) (h2 : ∀ a∈l,(g a).Nodup) (h3 : ∀ a∈l,∀ b∈l,a≠b -> ∀ y∈g a,∀ z∈g b,y≠z):(l.flatMap g).Nodup:=by
 induction l with
 | nil=>simp
 | cons a r ih =>
   rw [List.flatMap_cons,List.nodup_append]
   rw [List.nodup_cons] at h1
   refine ⟨h2 a (by simp),ih h1.2 (fun b hb=>h2 b (by simp [hb])) (fun b hb c hc=>h3 b (by simp [hb]) c (by simp [hc])),fun y hy z hz => ?_⟩
   obtain ⟨b,hb,hz⟩:=List.mem_flatMap.1 hz
   exact h3 a (by simp) b (by simp [hb]) (fun e=>h1.1 (e▸hb)) y hy z hz
theorem stations_nodup (x:List (List Acc)):(stations x).Nodup:=by
 unfold stations staT
 refine nodup_flatMap List.nodup_range (fun t _ => ?_) (fun t _ u _ hne y hy z hz => ?_)
 ·unfold staA
  refine nodup_flatMap List.nodup_range (fun a _ => ?_) (fun a _ b _ hne y hy z hz => ?_)
  ·unfold staB
   refine List.Pairwise.map _ ?_ (List.Pairwise.filter _ List.nodup_range)
   intro b c h e
   simp at e
   exact h (by omega)
  ·unfold staB at hy hz
   obtain ⟨_,_,rfl⟩:=List.mem_map.1 hy
   obtain ⟨_,_,rfl⟩:=List.mem_map.1 hz
   simp;omega
 ·unfold staA at hy hz
  obtain ⟨_,_,hy⟩:=List.mem_flatMap.1 hy
  obtain ⟨_,_,hz⟩:=List.mem_flatMap.1 hz
  unfold staB at hy hz
  obtain ⟨_,_,rfl⟩:=List.mem_map.1 hy
  obtain ⟨_,_,rfl⟩:=List.mem_map.1 hz
  simp;omega
theorem length_le_of_nodup {α:Type} [DecidableEq α] : ∀ {l m:List α},l.Nodup->(∀ a∈l,a∈m)->l.length<=m.length
 | [],_,_,_=>by simp
 | a::l,m,h,hs=>by
   rw [List.nodup_cons] at h
   have ha:=hs a (by simp)
   have:=length_le_of_nodup (l:=l) (m:=m.erase a) h.2 (fun b hb=>by
    have:b≠a:=fun e=>h.1 (e▸hb)
    exact (List.mem_erase_of_ne this).2 (hs b (by simp [hb])))
   rw [List.length_erase_of_mem ha] at this
   have:=List.length_pos_of_mem ha
   simp only [List.length_cons]
   omega
section
variable (x:List (List Acc))
def rl (t:Int):Int:=((x.getD t.toNat []).length:Int)
theorem mem_needed_iff {s:Sta}:s∈neededL x↔s∈stations x/\isPair x s=true /\ ∃ l∈circles x,s∈l:=by
 unfold neededL pairsL inCircle
 simp only [List.mem_filter,List.contains_eq_mem,decide_eq_true_eq,List.mem_flatten,and_assoc]
theorem needed_nodup:(neededL x).Nodup:=by
 unfold neededL pairsL
 exact (List.Pairwise.filter _ (List.Pairwise.filter _ (stations_nodup x)))
end
end Go.Am

namespace Go.Am
open Go Go.Proofs
end Go.Am

namespace Go.Am
open Go Go.Proofs
end Go.Am

namespace Go.Am
open Go Go.Proofs
end Go.Am

namespace Go.Am
open Go Go.Proofs
end Go.Am
