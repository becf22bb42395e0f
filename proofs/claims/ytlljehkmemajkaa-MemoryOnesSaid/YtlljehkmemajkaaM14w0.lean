/- Own text: M14w0. -/
import Derived.Test.YtlljehkmemajkaaM14p0
import Derived.Test.YtlljehkmemajkaaAmSrt
import Derived.Test.YtlljehkmemajkaaAmLaw
import Derived.Test.YtlljehkmemajkaaAmThw
import Derived.Test.YtlljehkmemajkaaAmSortO
import Derived.Test.YtlljehkmemajkaaM1T
import Derived.Test.YtlljehkmemajkaaM1K
import Derived.Test.YtlljehkmemajkaaGenw2
set_option maxRecDepth 100000
set_option maxHeartbeats 2000000
set_option linter.unusedVariables false
set_option linter.unusedSimpArgs false
namespace Go.Am
open Go Go.Proofs
theorem M94w {A:Ar} (hA:A=Ar.std) {x1:List (D×D)} {x2:List (D×D)} (h:M94 A x1 x2=some ()):ACall Try.prog 94 [(.map 1)] [(.map false [.int .i64] x1),(.map false [.int .i64] x2)] (.func 115 [] [(.ptr 2 0)]) [(.map false [.int .i64] x1),(.map false [.int .i64] x2),(.cells [(.map 1)])]:=by
 unfold M94 at h
 refine ACall.enter hT (fn:=Try.f94) Try.func94 rfl (by decide) (by simp [Try.f94]) rfl rfl rfl rfl (lb rfl) ?_
 refine AWp.seq ?_
 refine AWp.rg hT hA { esc:=[1] } (by cbv) (lb rfl) ?_
 refine nT ?_
 refine AWp.seq ?_
 refine AWp.rg hT hA { tk:=[3] } (by cbv) (lb rfl) ?_
 refine nT ?_
 refine AWp.ret ?_
 cases soI h
 exact ⟨rfl,rfl,rfl,lb rfl,_,rfl⟩
theorem M93w {A:Ar} (hA:A=Ar.std) {x1:List (D×D)} {x2:List (D×D)} {r:List D} (h:M93 A x1 x2=some r):ACall Try.prog 93 [(.func 115 [] [(.ptr 2 0)])] [(.map false [.int .i64] x1),(.map false [.int .i64] x2),(.cells [(.map 1)])] (.d (.list 1 r)) [(.map false [.int .i64] x1),(.map false [.int .i64] x2),(.cells [(.map 1)])] :=
 ACall.sortedKeys Try.sk93 { Try.sk94 with } Try.sk114 rfl rfl rfl rfl (a:=1) (c:=2) rfl rfl h rfl
theorem M92w {A:Ar} (hA:A=Ar.std) {x1:Int} {v2:Bool} (h:M92 A x1=some v2):ACall Try.prog 92 [(.d (.int .u64 x1))] [] (.d (.bool v2)) []:=by
 unfold M92 at h
 refine ACall.enter hT (fn:=Try.f92) Try.func92 rfl (by decide) (by simp [Try.f92]) rfl rfl rfl rfl (lb rfl) ?_
 refine AWp.seq ?_
 refine AWp.rg hT hA {} (by cbv) (lb rfl) ?_
 refine nT ?_
 refine AWp.seq ?_
 refine AWp.rg hT hA { tk:=[7] } (by cbv) (lb rfl) ?_
 refine nT ?_
 refine AWp.ret ?_
 cases soI h
 exact ⟨rfl,rfl,rfl,lb rfl,_,rfl⟩
theorem M51w {A:Ar} (hA:A=Ar.std) {x1:List D} {v246:Bool} {v247:Int} (h:M51 A x1=some (v246,v247)):ACall Try.prog 51 [(.d (.list 1 x1))] [] (.tuple [(.d (.bool v246)),(.d (.int .i64 v247))]) []:=by
 unfold M51 at h
 refine ACall.enter hT (fn:=Try.f51) Try.func51 rfl (by decide) (by simp [Try.f51]) rfl rfl rfl rfl (lb rfl) ?_
 refine AWp.seq ?_
 refine AWp.rg hT hA {} (by cbv) (lb rfl) ?_
 refine nT ?_
 refine AWp.seq ?_
 refine AWp.seq ?_
 refine AWp.region ?_
 obtain ⟨r3,e2,h⟩:=bindS h
 refine AOps.cc hT hA {} (by cbv) (lb rfl) (M23w hA e2) rfl (.inl rfl) rfl rfl rfl (lb rfl) rfl rfl ?_
 refine AOps.cd hT hA {} (by cbv) (lb rfl) ?_
 refine nT ?_
 rcases tf r3 with c4 | c4
 ·replace h:=cT c4 h
  refine AWp.cdF rfl (by first | rfl | simp only [c4,Bool.not_true,Bool.not_false,cond_true,cond_false]) ?_
  refine AWp.skip ?_
  refine nT ?_
  refine AWp.seq ?_
  refine AWp.rg hT hA {} (by (repeat (cbv;simp only [c4]));first | done | cbv) (lb rfl) ?_
  refine nT ?_
  refine AWp.seq ?_
  refine AWp.seq ?_
  refine AWp.rg hT hA {} (by (repeat (cbv;simp only [c4]));first | done | cbv) (lb rfl) ?_
  refine nT ?_
  refine AWp.block ?_
  obtain ⟨xK208,hxK208,K208,hK208,hkK208⟩:=bindK h
  refine AWp.cutX 0 [4,5] [] 2 (lb rfl) (fun τ => ∃ v206 v207,K208 (v206,v207)=some (v246,v247)/\τ={ env:=[(4,(.map 0)),(5,(.map 1))],heap:=[(.map false [.int .i64] v206),(.map false [.int .i64] v207)],n:=75 }) ?_ ?_
  ·skip
   refine AWp.iter hxK208 [4,5,18,19,20] [] 2 (lb rfl) (fun (v104,v105,v106)=>{ env:=[(4,(.map 0)),(5,(.map 1)),(18,(.d (.list 1 x1))),(19,(.d (.int .i64 (A.len x1)))),(20,(.d (.int .i64 v104)))],heap:=[(.map false [.int .i64] v105),(.map false [.int .i64] v106)],n:=75 }) ⟨rfl,(by first | (cbv;done) | ((repeat (cbv;simp only [c4]));first | done | cbv))⟩ ?_
   rintro ⟨v104,v105,v106⟩ eK208 hsK208
   dsimp only [M51L1] at hsK208
   refine AWp.seq ?_
   refine AWp.rg hT hA {} (by cbv) (lb rfl) ?_
   refine nT ?_
   refine AWp.seq ?_
   rcases tf (A.zlt v104 (A.len x1)) with c107 | c107
   ·replace hsK208:=cT c107 hsK208
    refine AWp.cdT rfl (by first | rfl | simp only [c107,Bool.not_true,Bool.not_false,cond_true,cond_false]) ?_
    refine AWp.skip ?_
    refine nT ?_
    refine AWp.seq ?_
    refine AWp.block ?_
    refine AWp.seq ?_
    obtain ⟨a108,e109,hsK208⟩:=bindS hsK208
    obtain ⟨f110,f111⟩:=gtI e109
    refine AWp.rg hT hA {} (by (repeat (cbv;simp only [c107,f110,f111]));first | done | cbv) (lb rfl) ?_
    refine nT ?_
    refine AWp.seq ?_
    refine AWp.rg hT hA {} (by (repeat (cbv;simp only [c107]));first | done | cbv) (lb rfl) ?_
    refine nT ?_
    refine AWp.block ?_
    obtain ⟨xK205,hxK205,K205,hK205,hkK205⟩:=bindK hsK208
    refine AWp.cutX 2 [4,5,18,19,20] [] 2 (lb rfl) (fun τ => ∃ v203 v204,K205 (v203,v204)=some eK208/\τ={ env:=[(4,(.map 0)),(5,(.map 1)),(18,(.d (.list 1 x1))),(19,(.d (.int .i64 (A.len x1)))),(20,(.d (.int .i64 v104)))],heap:=[(.map false [.int .i64] v203),(.map false [.int .i64] v204)],n:=75 }) ?_ ?_
    ·skip
     refine AWp.iter hxK205 [4,5,6,18,19,20,25,26,27] [] 2 (lb rfl) (fun (v156,v157,v158)=>{ env:=[(4,(.map 0)),(5,(.map 1)),(6,(.d (.int .i64 v104))),(18,(.d (.list 1 x1))),(19,(.d (.int .i64 (A.len x1)))),(20,(.d (.int .i64 v104))),(25,(.d (.list 3 a108))),(26,(.d (.int .i64 (A.len a108)))),(27,(.d (.int .i64 v156)))],heap:=[(.map false [.int .i64] v157),(.map false [.int .i64] v158)],n:=75 }) ⟨rfl,(by first | (cbv;done) | ((repeat (cbv;simp only [c107]));first | done | cbv))⟩ ?_
     rintro ⟨v156,v157,v158⟩ eK205 hsK205
     dsimp only [M51L0] at hsK205
     refine AWp.seq ?_
     refine AWp.rg hT hA {} (by cbv) (lb rfl) ?_
     refine nT ?_
     refine AWp.seq ?_
     rcases tf (A.zlt v156 (A.len a108)) with c159 | c159
     ·replace hsK205:=cT c159 hsK205
      refine AWp.cdT rfl (by first | rfl | simp only [c159,Bool.not_true,Bool.not_false,cond_true,cond_false]) ?_
      refine AWp.skip ?_
      refine nT ?_
      refine AWp.seq ?_
      refine AWp.block ?_
      refine AWp.seq ?_
      obtain ⟨⟨a160,a161,a162⟩,e163,hsK205⟩:=bindS hsK205
      obtain ⟨f164,f165⟩:=gtI e163
      refine AWp.rg hT hA { tk:=[30] } (by (repeat (cbv;simp only [c159,f164,f165]));first | done | cbv) (lb rfl) ?_
      refine nT ?_
      refine AWp.seq ?_
      refine AWp.rg hT hA {} (by (repeat (cbv;simp only [c159]));first | done | cbv) (lb rfl) ?_
      refine nT ?_
      refine AWp.block ?_
      refine AWp.seq ?_
      refine AWp.rg hT hA {} (by (repeat (cbv;simp only [c159]));first | done | cbv) (lb rfl) ?_
      refine nT ?_
      obtain ⟨⟨v200,v201⟩,hvK202,hsK205⟩:=bindS hsK205
      refine AWp.cutN [4,5,6,18,19,20,25,26,27] [] 2 (lb rfl) (fun τ=>τ={ env:=[(4,(.map 0)),(5,(.map 1)),(6,(.d (.int .i64 v104))),(18,(.d (.list 1 x1))),(19,(.d (.int .i64 (A.len x1)))),(20,(.d (.int .i64 v104))),(25,(.d (.list 3 a108))),(26,(.d (.int .i64 (A.len a108)))),(27,(.d (.int .i64 v156)))],heap:=[(.map false [.int .i64] v200),(.map false [.int .i64] v201)],n:=75 }) ?_ ?_
      ·skip
       rcases tf (A.zeq a160 2) with c166 | c166
       ·replace hvK202:=cT c166 hvK202
        refine AWp.cdT rfl (by first | rfl | simp only [c159,c166,Bool.not_true,Bool.not_false,cond_true,cond_false]) ?_
        refine AWp.seq ?_
        obtain ⟨v175,hvK176,hvK202⟩:=bindS hvK202
        refine AWp.cutN [4,5,6,9,18,19,20,25,26,27] [] 2 (lb rfl) (fun τ=>τ={ env:=[(4,(.map 0)),(5,(.map 1)),(6,(.d (.int .i64 v104))),(9,(.lbox [(.d (.int .i64 a160)),(.d (.int .i64 a161)),(.d (.int .i64 a162))])),(18,(.d (.list 1 x1))),(19,(.d (.int .i64 (A.len x1)))),(20,(.d (.int .i64 v104))),(25,(.d (.list 3 a108))),(26,(.d (.int .i64 (A.len a108)))),(27,(.d (.int .i64 v156)))],heap:=[(.map false [.int .i64] v157),(.map false [.int .i64] v175)],n:=75 }) ?_ ?_
        ·skip
         obtain ⟨o170,e168,hvK176⟩:=bindS hvK176
         rcases o170 with _ | a167
         ·have f169:=lkN e168
          replace hvK176:=noE hvK176
          obtain ⟨_,e171,hvK176⟩:=bindS hvK176
          have f172:=nkI e171
          refine AWp.rd hT hA {} rfl (by (repeat (cbv;simp only [c159,c166,f169,f172]));first | done | cbv) (by kernel_rfl) (lb rfl) ?_
          cases soI hvK176
          exact oNi ⟨rfl,(by first | (cbv;done) | ((repeat (cbv;simp only [c159,c166]));first | done | cbv))⟩
         ·have f169:=lkS e168
          replace hvK176:=soE hvK176
          obtain ⟨_,e173,hvK176⟩:=bindS hvK176
          have f174:=nkI e173
          refine AWp.rd hT hA {} rfl (by (repeat (cbv;simp only [c159,c166,f169,f174]));first | done | cbv) (by kernel_rfl) (lb rfl) ?_
          cases soI hvK176
          exact oNi ⟨rfl,(by first | (cbv;done) | ((repeat (cbv;simp only [c159,c166]));first | done | cbv))⟩
        ·rintro _ rfl
         refine nT ?_
         obtain ⟨v185,hvK186,hvK202⟩:=bindS hvK202
         refine AWp.cutN [4,5,6,18,19,20,25,26,27] [] 2 (lb rfl) (fun τ=>τ={ env:=[(4,(.map 0)),(5,(.map 1)),(6,(.d (.int .i64 v104))),(18,(.d (.list 1 x1))),(19,(.d (.int .i64 (A.len x1)))),(20,(.d (.int .i64 v104))),(25,(.d (.list 3 a108))),(26,(.d (.int .i64 (A.len a108)))),(27,(.d (.int .i64 v156)))],heap:=[(.map false [.int .i64] v185),(.map false [.int .i64] v175)],n:=75 }) ?_ ?_
         ·skip
          obtain ⟨o180,e178,hvK186⟩:=bindS hvK186
          rcases o180 with _ | a177
          ·have f179:=lkN e178
           replace hvK186:=noE hvK186
           obtain ⟨_,e181,hvK186⟩:=bindS hvK186
           have f182:=nkI e181
           refine AWp.rd hT hA {} rfl (by (repeat (cbv;simp only [f179,f182]));first | done | cbv) (by kernel_rfl) (lb rfl) ?_
           cases soI hvK186
           exact oNi ⟨rfl,(by cbv)⟩
          ·have f179:=lkS e178
           replace hvK186:=soE hvK186
           obtain ⟨_,e183,hvK186⟩:=bindS hvK186
           have f184:=nkI e183
           refine AWp.rd hT hA {} rfl (by (repeat (cbv;simp only [f179,f184]));first | done | cbv) (by kernel_rfl) (lb rfl) ?_
           cases soI hvK186
           exact oNi ⟨rfl,(by cbv)⟩
         ·rintro _ rfl
          cases soI hvK202
          exact oNi ⟨rfl,(by cbv)⟩
       ·replace hvK202:=cF c166 hvK202
        refine AWp.cdF rfl (by first | rfl | simp only [c159,c166,Bool.not_true,Bool.not_false,cond_true,cond_false]) ?_
        refine AWp.seq ?_
        refine AWp.rg hT hA {} (by (repeat (cbv;simp only [c159,c166]));first | done | cbv) (lb rfl) ?_
        refine nT ?_
        obtain ⟨v198,hvK199,hvK202⟩:=bindS hvK202
        refine AWp.cutN [4,5,6,18,19,20,25,26,27] [] 2 (lb rfl) (fun τ=>τ={ env:=[(4,(.map 0)),(5,(.map 1)),(6,(.d (.int .i64 v104))),(18,(.d (.list 1 x1))),(19,(.d (.int .i64 (A.len x1)))),(20,(.d (.int .i64 v104))),(25,(.d (.list 3 a108))),(26,(.d (.int .i64 (A.len a108)))),(27,(.d (.int .i64 v156)))],heap:=[(.map false [.int .i64] v198),(.map false [.int .i64] v158)],n:=75 }) ?_ ?_
        ·skip
         rcases tf (A.zeq a160 1) with c187 | c187
         ·replace hvK199:=cT c187 hvK199
          refine AWp.cdT rfl (by first | rfl | simp only [c159,c166,c187,Bool.not_true,Bool.not_false,cond_true,cond_false]) ?_
          obtain ⟨v196,hvK197,hvK199⟩:=bindS hvK199
          refine AWp.cutN [4,5,6,18,19,20,25,26,27] [] 2 (lb rfl) (fun τ=>τ={ env:=[(4,(.map 0)),(5,(.map 1)),(6,(.d (.int .i64 v104))),(18,(.d (.list 1 x1))),(19,(.d (.int .i64 (A.len x1)))),(20,(.d (.int .i64 v104))),(25,(.d (.list 3 a108))),(26,(.d (.int .i64 (A.len a108)))),(27,(.d (.int .i64 v156)))],heap:=[(.map false [.int .i64] v196),(.map false [.int .i64] v158)],n:=75 }) ?_ ?_
          ·skip
           obtain ⟨o191,e189,hvK197⟩:=bindS hvK197
           rcases o191 with _ | a188
           ·have f190:=lkN e189
            replace hvK197:=noE hvK197
            obtain ⟨_,e192,hvK197⟩:=bindS hvK197
            have f193:=nkI e192
            refine AWp.rd hT hA {} rfl (by (repeat (cbv;simp only [c159,c166,c187,f190,f193]));first | done | cbv) (by kernel_rfl) (lb rfl) ?_
            cases soI hvK197
            exact oNi ⟨rfl,(by first | (cbv;done) | ((repeat (cbv;simp only [c159,c166,c187]));first | done | cbv))⟩
           ·have f190:=lkS e189
            replace hvK197:=soE hvK197
            obtain ⟨_,e194,hvK197⟩:=bindS hvK197
            have f195:=nkI e194
            refine AWp.rd hT hA {} rfl (by (repeat (cbv;simp only [c159,c166,c187,f190,f195]));first | done | cbv) (by kernel_rfl) (lb rfl) ?_
            cases soI hvK197
            exact oNi ⟨rfl,(by first | (cbv;done) | ((repeat (cbv;simp only [c159,c166,c187]));first | done | cbv))⟩
          ·rintro _ rfl
           cases soI hvK199
           exact oNi ⟨rfl,(by cbv)⟩
         ·replace hvK199:=cF c187 hvK199
          refine AWp.cdF rfl (by first | rfl | simp only [c159,c166,c187,Bool.not_true,Bool.not_false,cond_true,cond_false]) ?_
          refine AWp.skip ?_
          cases soI hvK199
          exact oNi ⟨rfl,(by first | (cbv;done) | ((repeat (cbv;simp only [c159,c166,c187]));first | done | cbv))⟩
        ·rintro _ rfl
         cases soI hvK202
         exact oNi ⟨rfl,(by cbv)⟩
      ·rintro _ rfl
       refine nB ?_
       refine nB ?_
       refine nT ?_
       refine AWp.rg hT hA {} (by cbv) (lb rfl) ?_
       exact nT ⟨_,(soI hsK205).symm,rfl,(by cbv)⟩
     ·replace hsK205:=cF c159 hsK205
      refine AWp.cdF rfl (by first | rfl | simp only [c159,Bool.not_true,Bool.not_false,cond_true,cond_false]) ?_
      refine AWp.exit ?_
      refine xT ?_
      refine xT ?_
      refine exL hsK205 fun hx => ?_
      subst hx
      exact oxI ⟨rfl,_,_,hkK205,(by first | (cbv;done) | ((repeat (cbv;simp only [c159]));first | done | cbv))⟩
    ·rintro _ ⟨v203,v204,hkK205,rfl⟩
     have hsK208:=(hK205 _ hkK205)
     refine xB ?_
     refine nB ?_
     refine nT ?_
     refine AWp.rg hT hA {} (by cbv) (lb rfl) ?_
     exact nT ⟨_,(soI hsK208).symm,rfl,(by cbv)⟩
   ·replace hsK208:=cF c107 hsK208
    refine AWp.cdF rfl (by first | rfl | simp only [c107,Bool.not_true,Bool.not_false,cond_true,cond_false]) ?_
    refine AWp.exit ?_
    refine xT ?_
    refine xT ?_
    refine exL hsK208 fun hx => ?_
    subst hx
    exact oxI ⟨rfl,_,_,hkK208,(by first | (cbv;done) | ((repeat (cbv;simp only [c107]));first | done | cbv))⟩
  ·rintro _ ⟨v206,v207,hkK208,rfl⟩
   have h:=(hK208 _ hkK208)
   refine xB ?_
   refine nT ?_
   refine AWp.seq ?_
   refine AWp.rg hT hA {} (by cbv) (lb rfl) ?_
   refine nT ?_
   refine AWp.seq ?_
   refine AWp.seq ?_
   refine AWp.region ?_
   obtain ⟨_,e209,h⟩:=bindS h
   refine AOps.cc hT hA {} (by cbv) (lb rfl) (M94w hA e209) rfl (.inl rfl) rfl rfl rfl (lb rfl) rfl rfl ?_
   obtain ⟨r211,e210,h⟩:=bindS h
   refine AOps.cc hT hA {} (by cbv) (lb rfl) (M93w hA e210) rfl (.inl rfl) rfl rfl rfl (lb rfl) rfl rfl ?_
   refine AOps.cd hT hA {} (by cbv) (lb rfl) ?_
   refine nT ?_
   refine AWp.block ?_
   refine AWp.weak (Wk.ren [some 0] [4,10,62,63,64] rfl rfl) ?_
   obtain ⟨xK245,hxK245,K245,hK245,hkK245⟩:=bindK h
   refine AWp.cutX 5 [] [] 1 (lb rfl) (fun τ=>K245 (.inl ())=some (v246,v247)/\τ={ env:=[],heap:=[(.map false [.int .i64] v206)],n:=75 }) ?_ ?_
   ·skip
    refine AWp.iter hxK245 [4,10,62,63,64] [] 1 (lb rfl) (fun v228=>{ env:=[(4,(.map 0)),(10,(.func 92 [] [])),(62,(.d (.list 1 r211))),(63,(.d (.int .i64 (A.len r211)))),(64,(.d (.int .i64 v228)))],heap:=[(.map false [.int .i64] v206)],n:=75 }) ⟨rfl,(by cbv)⟩ ?_
    rintro v228 eK245 hsK245
    dsimp only [M51L2] at hsK245
    refine AWp.seq ?_
    refine AWp.rg hT hA {} (by cbv) (lb rfl) ?_
    refine nT ?_
    refine AWp.seq ?_
    rcases tf (A.zlt v228 (A.len r211)) with c229 | c229
    ·replace hsK245:=cT c229 hsK245
     refine AWp.cdT rfl (by first | rfl | simp only [c229,Bool.not_true,Bool.not_false,cond_true,cond_false]) ?_
     refine AWp.skip ?_
     refine nT ?_
     refine AWp.seq ?_
     refine AWp.block ?_
     refine AWp.seq ?_
     obtain ⟨a230,e231,hsK245⟩:=bindS hsK245
     obtain ⟨f232,f233⟩:=gtI e231
     refine AWp.rg hT hA {} (by (repeat (cbv;simp only [c229,f232,f233]));first | done | cbv) (lb rfl) ?_
     refine nT ?_
     refine AWp.seq ?_
     obtain ⟨v242,hvK243,hsK245⟩:=bindS hsK245
     refine AWp.cutN [4,10,62,63,64,73] [] 1 (lb rfl) (fun τ=>τ={ env:=[(4,(.map 0)),(10,(.func 92 [] [])),(62,(.d (.list 1 r211))),(63,(.d (.int .i64 (A.len r211)))),(64,(.d (.int .i64 v228))),(73,(.d (.bool v242)))],heap:=[(.map false [.int .i64] v206)],n:=75 }) ?_ ?_
     ·skip
      refine AWp.region ?_
      obtain ⟨o237,e235,hvK243⟩:=bindS hvK243
      rcases o237 with _ | a234
      ·have f236:=lkN e235
       replace hvK243:=noE hvK243
       obtain ⟨r239,e238,hvK243⟩:=bindS hvK243
       refine AOps.cc hT hA {} (by (repeat (cbv;simp only [c229,f236]));first | done | cbv) (lb rfl) (M92w hA e238) rfl (.inr rfl) rfl rfl rfl (lb rfl) rfl rfl ?_
       refine AOps.cd hT hA {} (by (repeat (cbv;simp only [c229,f236]));first | done | cbv) (lb rfl) ?_
       cases soI hvK243
       exact oNi ⟨rfl,(by first | (cbv;done) | ((repeat (cbv;simp only [c229]));first | done | cbv))⟩
      ·have f236:=lkS e235
       replace hvK243:=soE hvK243
       obtain ⟨r241,e240,hvK243⟩:=bindS hvK243
       refine AOps.cc hT hA {} (by (repeat (cbv;simp only [c229,f236]));first | done | cbv) (lb rfl) (M92w hA e240) rfl (.inr rfl) rfl rfl rfl (lb rfl) rfl rfl ?_
       refine AOps.cd hT hA {} (by (repeat (cbv;simp only [c229,f236]));first | done | cbv) (lb rfl) ?_
       cases soI hvK243
       exact oNi ⟨rfl,(by first | (cbv;done) | ((repeat (cbv;simp only [c229]));first | done | cbv))⟩
     ·rintro _ rfl
      refine nT ?_
      rcases tf v242 with c244 | c244
      ·replace hsK245:=cT c244 hsK245
       refine AWp.cdT rfl (by first | rfl | simp only [c244,Bool.not_true,Bool.not_false,cond_true,cond_false]) ?_
       refine AWp.seq ?_
       refine AWp.rg hT hA {} (by (repeat (cbv;simp only [c244]));first | done | cbv) (lb rfl) ?_
       refine nT ?_
       refine AWp.ret ?_
       refine rB ?_
       refine rT ?_
       refine rT ?_
       refine exL hsK245 fun hx => ?_
       subst hx
       refine oxR ?_
       replace hkK245:=(eR (hK245 _ hkK245))
       refine rB ?_
       refine rT ?_
       cases soI hkK245
       exact ⟨rfl,rfl,rfl,lb rfl,_,rfl⟩
      ·replace hsK245:=cF c244 hsK245
       refine AWp.cdF rfl (by first | rfl | simp only [c244,Bool.not_true,Bool.not_false,cond_true,cond_false]) ?_
       refine AWp.skip ?_
       refine nB ?_
       refine nT ?_
       refine AWp.rg hT hA {} (by (repeat (cbv;simp only [c244]));first | done | cbv) (lb rfl) ?_
       exact nT ⟨_,(soI hsK245).symm,rfl,(by first | (cbv;done) | ((repeat (cbv;simp only [c244]));first | done | cbv))⟩
    ·replace hsK245:=cF c229 hsK245
     refine AWp.cdF rfl (by first | rfl | simp only [c229,Bool.not_true,Bool.not_false,cond_true,cond_false]) ?_
     refine AWp.exit ?_
     refine xT ?_
     refine xT ?_
     refine exL hsK245 fun hx => ?_
     subst hx
     exact oxI ⟨rfl,hkK245,(by first | (cbv;done) | ((repeat (cbv;simp only [c229]));first | done | cbv))⟩
   ·rintro _ ⟨hkK245,rfl⟩
    have h:=(eL (hK245 _ hkK245))
    refine xB ?_
    refine nT ?_
    refine AWp.seq ?_
    refine AWp.rg hT hA {} (by cbv) (lb rfl) ?_
    refine nT ?_
    refine AWp.ret ?_
    cases soI h
    exact ⟨rfl,rfl,rfl,lb rfl,_,rfl⟩
 ·replace h:=cF c4 h
  refine AWp.cdT rfl (by first | rfl | simp only [c4,Bool.not_true,Bool.not_false,cond_true,cond_false]) ?_
  refine AWp.seq ?_
  refine AWp.rg hT hA {} (by (repeat (cbv;simp only [c4]));first | done | cbv) (lb rfl) ?_
  refine nT ?_
  refine AWp.ret ?_
  refine rT ?_
  cases soI h
  exact ⟨rfl,rfl,rfl,lb rfl,_,rfl⟩
theorem M25w {A:Ar} (hA:A=Ar.std) {x1:List D} {x2:List D} {v30:Bool} (h:M25 A x1 x2=some v30):ACall Try.prog 25 [(.d (.list 1 x1)),(.d (.list 1 x2))] [] (.d (.bool v30)) []:=by
 unfold M25 at h
 refine ACall.enter hT (fn:=Try.f25) Try.func25 rfl (by decide) (by simp [Try.f25]) rfl rfl rfl rfl (lb rfl) ?_
 refine AWp.seq ?_
 refine AWp.rg hT hA {} (by cbv) (lb rfl) ?_
 refine nT ?_
 refine AWp.seq ?_
 refine AWp.seq ?_
 refine AWp.rg hT hA {} (by cbv) (lb rfl) ?_
 refine nT ?_
 rcases tf (A.zeq (A.len x1) (A.len x2)) with c3 | c3
 ·replace h:=cT c3 h
  refine AWp.cdF rfl (by first | rfl | simp only [c3,Bool.not_true,Bool.not_false,cond_true,cond_false]) ?_
  refine AWp.skip ?_
  refine nT ?_
  refine AWp.seq ?_
  refine AWp.seq ?_
  refine AWp.rg hT hA {} (by (repeat (cbv;simp only [c3]));first | done | cbv) (lb rfl) ?_
  refine nT ?_
  refine AWp.block ?_
  obtain ⟨xK29,hxK29,K29,hK29,hkK29⟩:=bindK h
  refine AWp.cutX 0 [] [] 0 (lb rfl) (fun τ=>K29 (.inl ())=some v30/\τ={ env:=[],heap:=[],n:=27 }) ?_ ?_
  ·skip
   refine AWp.iter hxK29 [0,1,5] [] 0 (lb rfl) (fun v16=>{ env:=[(0,(.d (.list 1 x1))),(1,(.d (.list 1 x2))),(5,(.d (.int .i64 v16)))],heap:=[],n:=27 }) ⟨rfl,(by first | (cbv;done) | ((repeat (cbv;simp only [c3]));first | done | cbv))⟩ ?_
   rintro v16 eK29 hsK29
   dsimp only [M25L0] at hsK29
   refine AWp.seq ?_
   refine AWp.seq ?_
   refine AWp.rg hT hA {} (by cbv) (lb rfl) ?_
   refine nT ?_
   rcases tf (A.zlt v16 (A.len x1)) with c17 | c17
   ·replace hsK29:=cT c17 hsK29
    refine AWp.cdT rfl (by first | rfl | simp only [c17,Bool.not_true,Bool.not_false,cond_true,cond_false]) ?_
    refine AWp.skip ?_
    refine nT ?_
    refine AWp.seq ?_
    refine AWp.block ?_
    refine AWp.seq ?_
    refine AWp.regionDraw rfl (lb rfl) ?_
    obtain ⟨a18,e19,hsK29⟩:=bindS hsK29
    obtain ⟨f20,f21⟩:=gtI e19
    obtain ⟨a22,e23,hsK29⟩:=bindS hsK29
    obtain ⟨f24,f25⟩:=gtI e23
    obtain ⟨r27,e26,hsK29⟩:=bindS hsK29
    refine DOps.c0 hT hA {} rfl (by (repeat (cbv;simp only [c17,f20,f21,f24,f25]));first | done | cbv) (M30w hA e26) rfl rfl (lb rfl) rfl rfl ?_
    refine DOps.cd hT hA {} rfl (by (repeat (cbv;simp only [c17,f20,f21,f24,f25]));first | done | cbv) (by kernel_rfl) ?_
    refine nT ?_
    rcases tf (A.zeq r27 0) with c28 | c28
    ·replace hsK29:=cT c28 hsK29
     refine AWp.cdF rfl (by first | rfl | simp only [c17,c28,Bool.not_true,Bool.not_false,cond_true,cond_false]) ?_
     refine AWp.skip ?_
     refine nB ?_
     refine nT ?_
     refine AWp.rg hT hA {} (by (repeat (cbv;simp only [c17,c28]));first | done | cbv) (lb rfl) ?_
     exact nT ⟨_,(soI hsK29).symm,rfl,(by first | (cbv;done) | ((repeat (cbv;simp only [c17,c28]));first | done | cbv))⟩
    ·replace hsK29:=cF c28 hsK29
     refine AWp.cdT rfl (by first | rfl | simp only [c17,c28,Bool.not_true,Bool.not_false,cond_true,cond_false]) ?_
     refine AWp.seq ?_
     refine AWp.rg hT hA {} (by (repeat (cbv;simp only [c17,c28]));first | done | cbv) (lb rfl) ?_
     refine nT ?_
     refine AWp.ret ?_
     refine rB ?_
     refine rT ?_
     refine rT ?_
     refine exL hsK29 fun hx => ?_
     subst hx
     refine oxR ?_
     replace hkK29:=(eR (hK29 _ hkK29))
     refine rB ?_
     refine rT ?_
     cases soI hkK29
     exact ⟨rfl,rfl,rfl,lb rfl,_,rfl⟩
   ·replace hsK29:=cF c17 hsK29
    refine AWp.cdF rfl (by first | rfl | simp only [c17,Bool.not_true,Bool.not_false,cond_true,cond_false]) ?_
    refine AWp.exit ?_
    refine xT ?_
    refine xT ?_
    refine exL hsK29 fun hx => ?_
    subst hx
    exact oxI ⟨rfl,hkK29,(by first | (cbv;done) | ((repeat (cbv;simp only [c17]));first | done | cbv))⟩
  ·rintro _ ⟨hkK29,rfl⟩
   have h:=(eL (hK29 _ hkK29))
   refine xB ?_
   refine nT ?_
   refine AWp.seq ?_
   refine AWp.rg hT hA {} (by cbv) (lb rfl) ?_
   refine nT ?_
   refine AWp.ret ?_
   cases soI h
   exact ⟨rfl,rfl,rfl,lb rfl,_,rfl⟩
 ·replace h:=cF c3 h
  refine AWp.cdT rfl (by first | rfl | simp only [c3,Bool.not_true,Bool.not_false,cond_true,cond_false]) ?_
  refine AWp.seq ?_
  refine AWp.rg hT hA {} (by (repeat (cbv;simp only [c3]));first | done | cbv) (lb rfl) ?_
  refine nT ?_
  refine AWp.ret ?_
  refine rT ?_
  cases soI h
  exact ⟨rfl,rfl,rfl,lb rfl,_,rfl⟩
theorem M14w {A:Ar} (hA:A=Ar.std) {x1:List D} {v48:Bool} (h:M14 A x1=some v48):ACall Try.prog 14 [(.d (.list 1 x1))] [] (.d (.bool v48)) []:=by
 unfold M14 at h
 refine ACall.enter hT (fn:=Try.f14) Try.func14 rfl (by decide) (by simp [Try.f14]) rfl rfl rfl rfl (lb rfl) ?_
 refine AWp.seq ?_
 refine AWp.rg hT hA {} (by cbv) (lb rfl) ?_
 refine nT ?_
 refine AWp.seq ?_
 refine AWp.seq ?_
 obtain ⟨v7,hvK8,h⟩:=bindS h
 refine AWp.cutN [0,16] [] 0 (lb rfl) (fun τ=>τ={ env:=[(0,(.d (.list 1 x1))),(16,(.d (.bool v7)))],heap:=[],n:=71 }) ?_ ?_
 ·skip
  refine AWp.region ?_
  obtain ⟨r3,e2,hvK8⟩:=bindS hvK8
  refine AOps.cc hT hA {} (by cbv) (lb rfl) (M17w hA e2) rfl (.inl rfl) rfl rfl rfl (lb rfl) rfl rfl ?_
  rcases tf r3 with c4 | c4
  ·replace hvK8:=cT c4 hvK8
   refine AOps.cd hT hA {} (by (repeat (cbv;simp only [c4]));first | done | cbv) (lb rfl) ?_
   cases soI hvK8
   exact oNi ⟨rfl,(by first | (cbv;done) | ((repeat (cbv;simp only [c4]));first | done | cbv))⟩
  ·replace hvK8:=cF c4 hvK8
   obtain ⟨r6,e5,hvK8⟩:=bindS hvK8
   refine AOps.cc hT hA {} (by (repeat (cbv;simp only [c4]));first | done | cbv) (lb rfl) (M24w hA e5) rfl (.inl rfl) rfl rfl rfl (lb rfl) rfl rfl ?_
   refine AOps.cd hT hA {} (by (repeat (cbv;simp only [c4]));first | done | cbv) (lb rfl) ?_
   cases soI hvK8
   exact oNi ⟨rfl,(by first | (cbv;done) | ((repeat (cbv;simp only [c4]));first | done | cbv))⟩
 ·rintro _ rfl
  refine nT ?_
  rcases tf v7 with c9 | c9
  ·replace h:=cT c9 h
   refine AWp.cdT rfl (by first | rfl | simp only [c9,Bool.not_true,Bool.not_false,cond_true,cond_false]) ?_
   refine AWp.seq ?_
   refine AWp.region ?_
   obtain ⟨r11,e10,h⟩:=bindS h
   refine AOps.cc hT hA { tk:=[17] } (by (repeat (cbv;simp only [c9]));first | done | cbv) (lb rfl) (M18w hA e10) rfl (.inl rfl) rfl rfl rfl (lb rfl) rfl rfl ?_
   refine AOps.cd hT hA { tk:=[17] } (by (repeat (cbv;simp only [c9]));first | done | cbv) (lb rfl) ?_
   refine nT ?_
   refine AWp.ret ?_
   refine rT ?_
   cases soI h
   exact ⟨rfl,rfl,rfl,lb rfl,_,rfl⟩
  ·replace h:=cF c9 h
   refine AWp.cdF rfl (by first | rfl | simp only [c9,Bool.not_true,Bool.not_false,cond_true,cond_false]) ?_
   refine AWp.skip ?_
   refine nT ?_
   refine AWp.seq ?_
   refine AWp.region ?_
   obtain ⟨⟨r13,r14⟩,e12,h⟩:=bindS h
   refine AOps.cc hT hA {} (by (repeat (cbv;simp only [c9]));first | done | cbv) (lb rfl) (M51w hA e12) rfl (.inl rfl) rfl rfl rfl (lb rfl) rfl rfl ?_
   refine AOps.cd hT hA {} (by (repeat (cbv;simp only [c9]));first | done | cbv) (lb rfl) ?_
   refine nT ?_
   refine AWp.seq ?_
   refine AWp.seq ?_
   refine AWp.rg hT hA {} (by (repeat (cbv;simp only [c9]));first | done | cbv) (lb rfl) ?_
   refine nT ?_
   rcases tf (A.zeq r14 0) with c15 | c15
   ·replace h:=cT c15 h
    refine AWp.cdF rfl (by first | rfl | simp only [c9,c15,Bool.not_true,Bool.not_false,cond_true,cond_false]) ?_
    refine AWp.skip ?_
    refine nT ?_
    refine AWp.seq ?_
    refine AWp.seq ?_
    refine AWp.rg hT hA {} (by (repeat (cbv;simp only [c9,c15]));first | done | cbv) (lb rfl) ?_
    refine nT ?_
    obtain ⟨v23,hvK24,h⟩:=bindS h
    refine AWp.cutN [0] [] 0 (lb rfl) (fun τ=>τ={ env:=[(0,(.d (.list 1 v23)))],heap:=[],n:=71 }) ?_ ?_
    ·skip
     rcases tf r13 with c16 | c16
     ·replace hvK24:=cT c16 hvK24
      refine AWp.cdT rfl (by first | rfl | simp only [c9,c15,c16,Bool.not_true,Bool.not_false,cond_true,cond_false]) ?_
      obtain ⟨l17,e18,hvK24⟩:=bindS hvK24
      obtain ⟨f19,f20,f21,f22⟩:=slI e18
      refine AWp.rg hT hA {} (by (repeat (cbv;simp only [c9,c15,c16,f19,f20,f21,f22]));first | done | cbv) (lb rfl) ?_
      cases soI hvK24
      exact oNi ⟨rfl,(by first | (cbv;done) | ((repeat (cbv;simp only [c9,c15,c16]));first | done | cbv))⟩
     ·replace hvK24:=cF c16 hvK24
      refine AWp.cdF rfl (by first | rfl | simp only [c9,c15,c16,Bool.not_true,Bool.not_false,cond_true,cond_false]) ?_
      refine AWp.skip ?_
      cases soI hvK24
      exact oNi ⟨rfl,(by first | (cbv;done) | ((repeat (cbv;simp only [c9,c15,c16]));first | done | cbv))⟩
    ·rintro _ rfl
     refine nT ?_
     refine AWp.seq ?_
     refine AWp.region ?_
     obtain ⟨⟨r26,r27⟩,e25,h⟩:=bindS h
     refine AOps.cc hT hA {} (by cbv) (lb rfl) (M19w hA e25) rfl (.inl rfl) rfl rfl rfl (lb rfl) rfl rfl ?_
     refine AOps.cd hT hA {} (by cbv) (lb rfl) ?_
     refine nT ?_
     refine AWp.seq ?_
     refine AWp.region ?_
     obtain ⟨⟨r29,r30⟩,e28,h⟩:=bindS h
     refine AOps.cc hT hA {} (by cbv) (lb rfl) (M19w hA e28) rfl (.inl rfl) rfl rfl rfl (lb rfl) rfl rfl ?_
     refine AOps.cd hT hA {} (by cbv) (lb rfl) ?_
     refine nT ?_
     refine AWp.seq ?_
     refine AWp.region ?_
     obtain ⟨⟨r32,r33⟩,e31,h⟩:=bindS h
     refine AOps.cc hT hA {} (by cbv) (lb rfl) (M19w hA e31) rfl (.inl rfl) rfl rfl rfl (lb rfl) rfl rfl ?_
     refine AOps.cd hT hA {} (by cbv) (lb rfl) ?_
     refine nT ?_
     refine AWp.seq ?_
     obtain ⟨v46,hvK47,h⟩:=bindS h
     refine AWp.cutN [2] [] 0 (lb rfl) (fun τ=>τ={ env:=[(2,(.d (.bool v46)))],heap:=[],n:=71 }) ?_ ?_
     ·skip
      refine AWp.region ?_
      rcases tf (A.zeq r27 0) with c34 | c34
      ·replace hvK47:=cT c34 hvK47
       rcases tf (A.zeq r30 0) with c35 | c35
       ·replace hvK47:=cT c35 hvK47
        rcases tf (A.zeq r33 0) with c36 | c36
        ·replace hvK47:=cT c36 hvK47
         rcases tf (A.zeq (A.len r26) 1) with c37 | c37
         ·replace hvK47:=cT c37 hvK47
          obtain ⟨r39,e38,hvK47⟩:=bindS hvK47
          refine AOps.cc hT hA { tk:=[70] } (by (repeat (cbv;simp only [c34,c35,c36,c37]));first | done | cbv) (lb rfl) (M25w hA e38) rfl (.inl rfl) rfl rfl rfl (lb rfl) rfl rfl ?_
          rcases tf r39 with c40 | c40
          ·replace hvK47:=cT c40 hvK47
           obtain ⟨r42,e41,hvK47⟩:=bindS hvK47
           refine AOps.cc hT hA { tk:=[70] } (by (repeat (cbv;simp only [c34,c35,c36,c37,c40]));first | done | cbv) (lb rfl) (M25w hA e41) rfl (.inl rfl) rfl rfl rfl (lb rfl) rfl rfl ?_
           rcases tf r42 with c43 | c43
           ·replace hvK47:=cT c43 hvK47
            obtain ⟨r45,e44,hvK47⟩:=bindS hvK47
            refine AOps.cc hT hA { tk:=[70] } (by (repeat (cbv;simp only [c34,c35,c36,c37,c40,c43]));first | done | cbv) (lb rfl) (M18w hA e44) rfl (.inl rfl) rfl rfl rfl (lb rfl) rfl rfl ?_
            refine AOps.cd hT hA { tk:=[70] } (by (repeat (cbv;simp only [c34,c35,c36,c37,c40,c43]));first | done | cbv) (lb rfl) ?_
            cases soI hvK47
            exact oNi ⟨rfl,(by first | (cbv;done) | ((repeat (cbv;simp only [c34,c35,c36,c37,c40,c43]));first | done | cbv))⟩
           ·replace hvK47:=cF c43 hvK47
            refine AOps.cd hT hA { tk:=[70] } (by (repeat (cbv;simp only [c34,c35,c36,c37,c40,c43]));first | done | cbv) (lb rfl) ?_
            cases soI hvK47
            exact oNi ⟨rfl,(by first | (cbv;done) | ((repeat (cbv;simp only [c34,c35,c36,c37,c40,c43]));first | done | cbv))⟩
          ·replace hvK47:=cF c40 hvK47
           refine AOps.cd hT hA { tk:=[70] } (by (repeat (cbv;simp only [c34,c35,c36,c37,c40]));first | done | cbv) (lb rfl) ?_
           cases soI hvK47
           exact oNi ⟨rfl,(by first | (cbv;done) | ((repeat (cbv;simp only [c34,c35,c36,c37,c40]));first | done | cbv))⟩
         ·replace hvK47:=cF c37 hvK47
          refine AOps.cd hT hA { tk:=[70] } (by (repeat (cbv;simp only [c34,c35,c36,c37]));first | done | cbv) (lb rfl) ?_
          cases soI hvK47
          exact oNi ⟨rfl,(by first | (cbv;done) | ((repeat (cbv;simp only [c34,c35,c36,c37]));first | done | cbv))⟩
        ·replace hvK47:=cF c36 hvK47
         refine AOps.cd hT hA { tk:=[70] } (by (repeat (cbv;simp only [c34,c35,c36]));first | done | cbv) (lb rfl) ?_
         cases soI hvK47
         exact oNi ⟨rfl,(by first | (cbv;done) | ((repeat (cbv;simp only [c34,c35,c36]));first | done | cbv))⟩
       ·replace hvK47:=cF c35 hvK47
        refine AOps.cd hT hA { tk:=[70] } (by (repeat (cbv;simp only [c34,c35]));first | done | cbv) (lb rfl) ?_
        cases soI hvK47
        exact oNi ⟨rfl,(by first | (cbv;done) | ((repeat (cbv;simp only [c34,c35]));first | done | cbv))⟩
      ·replace hvK47:=cF c34 hvK47
       refine AOps.cd hT hA { tk:=[70] } (by (repeat (cbv;simp only [c34]));first | done | cbv) (lb rfl) ?_
       cases soI hvK47
       exact oNi ⟨rfl,(by first | (cbv;done) | ((repeat (cbv;simp only [c34]));first | done | cbv))⟩
     ·rintro _ rfl
      refine nT ?_
      refine AWp.ret ?_
      cases soI h
      exact ⟨rfl,rfl,rfl,lb rfl,_,rfl⟩
   ·replace h:=cF c15 h
    refine AWp.cdT rfl (by first | rfl | simp only [c9,c15,Bool.not_true,Bool.not_false,cond_true,cond_false]) ?_
    refine AWp.seq ?_
    refine AWp.rg hT hA {} (by (repeat (cbv;simp only [c9,c15]));first | done | cbv) (lb rfl) ?_
    refine nT ?_
    refine AWp.ret ?_
    refine rT ?_
    cases soI h
    exact ⟨rfl,rfl,rfl,lb rfl,_,rfl⟩
end Go.Am
