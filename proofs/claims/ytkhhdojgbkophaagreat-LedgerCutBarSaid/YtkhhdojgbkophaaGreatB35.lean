/-
  The inventory as a variable: stocks that are received.
-/
import Derived.Test.YtkhhdojgbkophaaGreatB34
set_option linter.unusedVariables false
set_option linter.unusedSimpArgs false
namespace Go.Proofs.Led
open Go Go.Proofs Go.Ab
set_option maxRecDepth 100000
set_option maxHeartbeats 4000000
def plus(b:Bool)(r:Iv)(n:Int):Iv:=if b then(r.1,W (r.2+n))else(W (r.1+n),r.2)
noncomputable def aX7(s:aJ)(x:aN):aJ:={stocks:=putS s.stocks x,pieces:=s.pieces,used:=putN s.used (sid x),received:=plus x.isBar s.received (gG x),scrap:=s.scrap}
theorem eO0{s:aJ}{n:Int}(hs:Gd s)(hl:s.used.length+1<=1000000)(hn:n∉s.used):Gd {s with used:=putN s.used n}:=
 ⟨hs.ls,hs.lp,by show(putN s.used n).length<=_;rw[show(putN s.used n).length=s.used.length+1 from mQ];exact hl,hs.ss,hs.sp,rF hs.su hn⟩
theorem cJ5(s:aJ)(x:aN)(hs:Gd s)(hx:eY x)(hl:s.used.length+1<=1000000)(hn:sid x∉s.used):
 jR T Tryz.prog Tryz.f134 [.box 100000 0,aQ x] [stC s] (I 0) [stC (aX7 s x)] :=by
 have h1:=aE2 x
 have h2:=aT7 s [sid x] hs hl ⟨hn,trivial⟩
 have h3:=cF7 {s with used:=putN s.used (sid x)} x (eO0 hs hl hn)
 have h4:=oL x.isBar
 have h5:=vF x hx
 change SpB _ _ _ _ [stC {s with used:=putN s.used (sid x)}]at h2
 unfold aX7
 unfold addS at h3
 simp only at h3
 generalize putN s.used (sid x)=U at*
 generalize putS s.stocks x=L at*
 generalize sid x=n at*
 generalize gG x=z at*
 unfold plus
 obtain⟨b,sh,br,p⟩:=x
 cases b
 ·repeat' ((conv=>whnf);first|(exfalso;omega)|refine zc h1 ?_|refine zh (h2) [100000] ?_|refine zh (h3) [100000] ?_|refine zc h4 ?_|refine zc h5 ?_|refine zg ?_|refine zi ?_|refine zw ?_|refine zn ?_|refine zz (fun _=>?_) fun _=>?_|refine zq ?_)
  all_goals conv=>whnf
  all_goals first|exact⟨_,rfl,zc1⟩|exact zc1
 ·repeat' ((conv=>whnf);first|(exfalso;omega)|refine zc h1 ?_|refine zh (h2) [100000] ?_|refine zh (h3) [100000] ?_|refine zc h4 ?_|refine zc h5 ?_|refine zg ?_|refine zi ?_|refine zw ?_|refine zn ?_|refine zz (fun _=>?_) fun _=>?_|refine zq ?_)
  all_goals conv=>whnf
  all_goals first|exact⟨_,rfl,zc1⟩|exact zc1
theorem bN1(s:aJ)(x:aN)(hs:Gd s)(hx:eY x)(hl:s.used.length+1<=1000000)(hn:sid x∉s.used):
 SpB 134 [.box 100000 0,aQ x] [stC s] (I 0) [stC (aX7 s x)] :=
 b_of Tryz.func134 (by kernel_rfl) (by kernel_rfl) rfl rfl (cJ5 s x hs hx hl hn)
theorem cK4(s:aJ)(x:aN)(hs:Gd s)(hl:s.used.length+1<=1000000)(hn:sid x∈s.used):
 jR T Tryz.prog Tryz.f134 [.box 100000 0,aQ x] [stC s] (I 7) [bots] :=by
 have h1:=aE2 x
 have h2:=aU4 s [sid x] hs hl (fun h=>h.1 hn)
 generalize sid x=n at*
 repeat' ((conv=>whnf);first|(exfalso;omega)|refine zc h1 ?_|refine zh (h2) [100000] ?_|refine zg ?_|refine zn ?_|refine zz (fun _=>?_) fun _=>?_|refine zq ?_)
 all_goals conv=>whnf
 all_goals first|exact⟨_,rfl,zc1⟩|exact zc1
theorem bM7(s:aJ)(x:aN)(hs:Gd s)(hl:s.used.length+1<=1000000)(hn:sid x∈s.used):
 SpB 134 [.box 100000 0,aQ x] [stC s] (I 7) [bots] :=
 b_of Tryz.func134 (by kernel_rfl) (by kernel_rfl) rfl rfl (cK4 s x hs hl hn)
theorem eF2(s:aJ)(e:Event){r:Int}{bs':List (List V)}(hl:bs'=[bots]\/∃s',bs'=[stC s'])(h:SpB 134 [.box 100000 0,aQ (⟨true,dN,e.bar,aI⟩:aN)] [stC s] (I r) bs'):
 jR T Tryz.prog Tryz.f57 [.box 100000 0,aS e] [stC s] (I r) bs':=by
 rcases hl with rfl|⟨s',rfl⟩
 ·repeat' ((conv=>whnf);first|refine zh (h) [100000] ?_|refine zg ?_|refine zq ?_)
  all_goals conv=>whnf
  all_goals first|exact⟨_,rfl,zc1⟩|exact zc1
 ·repeat' ((conv=>whnf);first|refine zh (h) [100000] ?_|refine zg ?_|refine zq ?_)
  all_goals conv=>whnf
  all_goals first|exact⟨_,rfl,zc1⟩|exact zc1
theorem bJ1(s:aJ)(e:Event){r:Int}{bs':List (List V)}(hl:bs'=[bots]\/∃s',bs'=[stC s'])(h:SpB 134 [.box 100000 0,aQ (⟨true,dN,e.bar,aI⟩:aN)] [stC s] (I r) bs'):
 SpB 57 [.box 100000 0,aS e] [stC s] (I r) bs':=
 b_of Tryz.func57 (by kernel_rfl) (by kernel_rfl) rfl (by rcases hl with rfl|⟨s',rfl⟩<;>rfl) (eF2 s e hl h)
theorem dO1(s:aJ)(e:Event){r:Int}{bs':List (List V)}(hl:bs'=[bots]\/∃s',bs'=[stC s'])(h:SpB 134 [.box 100000 0,aQ (⟨false,e.sheet,bar0,aI⟩:aN)] [stC s] (I r) bs'):
 jR T Tryz.prog Tryz.f56 [.box 100000 0,aS e] [stC s] (I r) bs':=by
 rcases hl with rfl|⟨s',rfl⟩
 ·repeat' ((conv=>whnf);first|refine zh (h) [100000] ?_|refine zg ?_|refine zq ?_)
  all_goals conv=>whnf
  all_goals first|exact⟨_,rfl,zc1⟩|exact zc1
 ·repeat' ((conv=>whnf);first|refine zh (h) [100000] ?_|refine zg ?_|refine zq ?_)
  all_goals conv=>whnf
  all_goals first|exact⟨_,rfl,zc1⟩|exact zc1
theorem aW2(s:aJ)(e:Event){r:Int}{bs':List (List V)}(hl:bs'=[bots]\/∃s',bs'=[stC s'])(h:SpB 134 [.box 100000 0,aQ (⟨false,e.sheet,bar0,aI⟩:aN)] [stC s] (I r) bs'):
 SpB 56 [.box 100000 0,aS e] [stC s] (I r) bs':=
 b_of Tryz.func56 (by kernel_rfl) (by kernel_rfl) rfl (by rcases hl with rfl|⟨s',rfl⟩<;>rfl) (dO1 s e hl h)
end Go.Proofs.Led
