/-
  The library's Insert at one type of elements: the element x put in at the place i.
-/
import Derived.Test.YtkhhdojgbkophaaGreatB28
import Derived.Test.YtkhhdojgbkophaaGreatSI4
import Derived.Test.YtkhhdojgbkophaaGreatB27
import Derived.Test.YtkhhdojgbkophaaGreatB30
import Derived.Test.YtkhhdojgbkophaaGreatB32
set_option linter.unusedVariables false
set_option linter.unusedSimpArgs false
namespace Go.Proofs.Led
open Go Go.Proofs Go.Ab
set_option maxRecDepth 1000000
set_option maxHeartbeats 4000000
theorem dM5(l:List V)(x:V)(i:Nat)(hi:i<=l.length)(hl:l.length<=1000000000):Sp 191 [.own 3 l,I i, .own 3 [x]] (.own 3 (l.take i++x::l.drop i)):=by
 have eZ:(T.row 3).size=1:=by kernel_rfl
 refine⟨by kernel_rfl,fun w G cs h1 h2 h3 h4 h5=>?_⟩
 obtain⟨v0,v1,v2,rfl⟩:=arr3 h1
 have r0:Rb T w G 0 v0 (.own 3 l):=h4 0 v0 _ rfl rfl
 have r1:v1= .int .i64 i:=aN3 (h4 1 v1 (I i) rfl rfl)
 have r2:Rb T w G 2 v2 (.own 3 [x]):=h4 2 v2 _ rfl rfl
 subst r1
 obtain⟨hE,hpl,ho⟩:=r0
 obtain⟨_,hpx,hx⟩:=r2
 obtain⟨vb,vc,vcur,rfl,hvO,hv,hvs,hxl,hxr⟩:=bY9 hx
 rw[eZ]at hvs hxr
 have hxl':=hxl
 rw[eZ]at hxl'
 have hpx':x.pure:=aH.1 hpx x (by simp)
 have hpL:bM (l.take i++x::l.drop i):=aH.2 fun y hy=>by
  rcases List.mem_append.1 hy with h|h
  ·exact aH.1 hpl y (List.mem_of_mem_take h)
  ·rcases List.mem_cons.1 h with rfl|h
   ·exact hpx'
   ·exact aH.1 hpl y (List.mem_of_mem_drop h)
 have hlen:(l.take i++x::l.drop i).length=l.length+1:=by simp;omega
 have hone:∀v∈vcur.toList.take 1,v.oneCell'=true:=hxr.one
 have hvl:(vcur.toList.take 1).length=1:=by rw[List.length_take,Array.length_toList];omega
 have hvw:vb<w.heap.size:=(Array.getElem?_eq_some_iff.1 hv).1
 have hflat:(l.take i++x::l.drop i).flatMap V.cells=(l.take i).flatMap V.cells++x.cells++(l.drop i).flatMap V.cells:=by simp[List.flatMap_append,List.flatMap_cons]
 rcases ho with⟨hn0,rfl⟩|⟨b,c,cur,rfl,hO,hb,hlc,hcm,hcs,hzl,hrl⟩
 ·have hi0:i=0:=by simpa using hi
  subst hi0
  obtain⟨base,rfl⟩:∃base,v0= .slice base 0 0:=by
   rcases hn0 with rfl|⟨a,rfl⟩
   ·exact⟨none,rfl⟩
   ·exact⟨some a,rfl⟩
  refine(bS0 base 0 0 vb vc [] vcur w (Nat.le_refl _) (by omega) (by omega) (fun _=>⟨rfl,rfl⟩) (fun a h j v hj=>by simp at hj) rfl hv hvs).mono ?_
  rintro e w' ⟨c',z,rfl,hc1,hc2,hzz,rfl⟩
  have hz':∀y∈([x] :List V),y.cells.length=(T.row 3).size:=fun y hy=>by rw[List.mem_singleton.1 hy];exact hxl
  refine jM (L:=[x]) (n:=0+1) hE hpx rfl hz' ?_ Array.getElem?_push_size ?_ hc1 hc2 h2 h3 (.inr (Nat.le_refl _)) (fun q hq _=>?_) (by show _<=(w.heap.push _).size;rw[Array.size_push];omega) rfl rfl rfl
  ·rw[eZ]
   have e2:((([] :List Value).toArray++(vcur.toList.take 1).toArray++z).toList.take ((0+1)*1))=vcur.toList.take 1:=by
    simp only[Array.toList_append,List.nil_append]
    rw[List.take_append_of_le_length (by rw[hvl];omega)]
    exact List.take_of_length_le (by rw[hvl];omega)
   rw[e2]
   simpa using hxr
  ·rw[eZ]
   simp only[Array.size_append,List.size_toArray,hvl,hzz,List.length_nil]
   omega
  ·show(w.heap.push _)[q]? =_
   rw[Array.getElem?_push_lt hq,Array.getElem?_eq_getElem hq]
 ·rw[eZ]at hcs hrl
  have hcur0:cur.toList.length=c*1:=by rw[<-hcs];exact Array.length_toList
  have hzl':=hzl
  rw[eZ]at hzl'
  have hbw:b<w.heap.size:=(Array.getElem?_eq_some_iff.1 hb).1
  have hne:vb≠b:=by rintro rfl;rw[hvO]at hO;cases hO
  have hz':∀y∈l.take i++x::l.drop i,y.cells.length=(T.row 3).size:=fun y hy=>by
   rcases List.mem_append.1 hy with h|h
   ·exact hzl y (List.mem_of_mem_take h)
   ·rcases List.mem_cons.1 h with rfl|h
    ·exact hxl
    ·exact hzl y (List.mem_of_mem_drop h)
  obtain⟨f1,f2⟩:=xW hzl' hi
  have hA:RvL w G (cur.toList.take (i*1)) ((l.take i).flatMap V.cells):=by
   have:=aM1 hrl (i*1)
   rw[List.take_take,Nat.min_eq_left (by omega),f1]at this
   exact this
  have hM:RvL w G ((cur.toList.drop (i*1)).take ((l.length-i)*1)) ((l.drop i).flatMap V.cells):=by
   have:=aL4 hrl (i*1)
   rw[f2,List.drop_take,show l.length*1-i*1=(l.length-i)*1 by omega]at this
   exact this
  have hml:((cur.toList.drop (i*1)).take ((l.length-i)*1)).length=(l.length-i)*1:=by rw[List.length_take,List.length_drop,hcur0];omega
  have hX:RvL w G (cur.toList.take (i*1)++vcur.toList.take 1++(cur.toList.drop (i*1)).take ((l.length-i)*1)) ((l.take i++x::l.drop i).flatMap V.cells):=by
   rw[hflat]
   exact oH (oH hA hxr) hM
  have ep:i*1+(vcur.toList.take 1).length=(i+1)*1:=by rw[hvl];omega
  have et:i*1+(vcur.toList.take 1).length+((cur.toList.drop (i*1)).take ((l.length-i)*1)).length=(l.length+1)*1:=by rw[hml,hvl];omega
  have hc63:c<=9223372036854775807:=by unfold maxLen at hcm;omega
  by_cases hroom:l.length+1<=c
  ·by_cases hin:i<l.length
   ·refine(cS7 b l.length c i vb vc cur vcur w hin hroom hc63 hne hb hv hcs hvs hrl.one hone).mono ?_
    rintro e w' ⟨rfl,rfl⟩
    have hs1:=lay_size (cur:=cur) (o:=(i+1)*1) (vs:=(cur.toList.drop (i*1)).take ((l.length-i)*1)) (by rw[hml,hcs];omega)
    refine jM hE hpL hlen hz' (X:=lay (lay cur ((i+1)*1) ((cur.toList.drop (i*1)).take ((l.length-i)*1))) (i*1) (vcur.toList.take 1)) ?_ (setRow_heap _ b _ _ _ _ (setRow_heap w.drew b cur _ _ _ hb)) ?_ hroom hcm h2 h3 (.inl hO) (fun q hq hqb=>?_) ?_ rfl rfl rfl
    ·rw[eZ,<-et,<-ep,layA (by rw[et,hcs];omega)]
     exact hX
    ·rw[lay_size (by rw[hvl,hs1,hcs];omega),hs1,hcs,eZ]
    ·rw[setRow_other _ b q _ hqb,setRow_other _ b q _ hqb];rfl
    ·rw[size_setRow,size_setRow];exact Nat.le_refl _
   ·have hin':i=l.length:=by omega
    subst hin'
    refine(eF0 b l.length c vb vc cur vcur w hroom hc63 hb hv hcs hvs hone).mono ?_
    rintro e w' ⟨rfl,rfl⟩
    refine jM hE hpL hlen hz' (X:=lay cur (l.length*1) (vcur.toList.take 1)) ?_ (setRow_heap w b cur _ _ _ hb) ?_ hroom hcm h2 h3 (.inl hO) (fun q hq hqb=>?_) ?_ rfl rfl rfl
    ·rw[eZ]
     have e0:(cur.toList.drop (l.length*1)).take ((l.length-l.length)*1)=[] :=List.length_eq_zero_iff.1 (by rw[hml];omega)
     rw[e0,List.append_nil]at hX
     rw[show(l.length+1)*1=l.length*1+(vcur.toList.take 1).length by rw[hvl];omega,layC (by rw[hvl,hcs];omega)]
     exact hX
    ·rw[lay_size (by rw[hvl,hcs];omega),hcs,eZ]
    ·rw[setRow_other _ b q _ hqb]
    ·rw[size_setRow];exact Nat.le_refl _
  ·have hroom':c<l.length+1:=by omega
   by_cases hin:i<l.length
   ·refine(dQ3 b l.length c i vb vc cur vcur w hin hlc hroom' hl hb hv hcs hvs hrl.one hone).mono ?_
    rintro e w' ⟨c',R,rfl,hc1,hc2,hRs,hRt,hN,hO',hsz,q1,q2,q3⟩
    refine jM hE hpL hlen hz' ?_ hN ?_ hc1 hc2 h2 h3 (.inr (Nat.le_refl _)) (fun q hq _=>hO' q hq) (by omega) q1 q2 q3
    ·rw[eZ,<-et,<-ep,layB (by rw[et,hRs];omega),hRt]
     exact hX
    ·rw[lay_size (by rw[hml,lay_size (by rw[hvl,hRs];omega),hRs];omega),lay_size (by rw[hvl,hRs];omega),hRs,eZ]
   ·have hin':i=l.length:=by omega
    subst hin'
    refine(bS0 (some ⟨b,0,none⟩) l.length c vb vc (cur.toList.take (l.length*1)) vcur w hlc hroom' hl (fun h=>by cases h) (fun a ha j v hj=>?_) (by rw[List.length_take,hcur0];omega) hv hvs).mono ?_
    ·cases ha
     rw[Addr.add_lit]
     rw[List.getElem?_take]at hj
     split at hj
     ·rw[Array.getElem?_toList]at hj
      simp only[World.cell?,hb]
      simpa using hj
     ·cases hj
    rintro e w' ⟨c',z,rfl,hc1,hc2,hzz,rfl⟩
    have hcl:(cur.toList.take (l.length*1)).length=l.length*1:=by rw[List.length_take,hcur0];omega
    refine jM hE hpL hlen hz' ?_ Array.getElem?_push_size ?_ hc1 hc2 h2 h3 (.inr (Nat.le_refl _)) (fun q hq _=>?_) (by show _<=(w.heap.push _).size;rw[Array.size_push];omega) rfl rfl rfl
    ·rw[eZ]
     have e0:(cur.toList.drop (l.length*1)).take ((l.length-l.length)*1)=[] :=List.length_eq_zero_iff.1 (by rw[hml];omega)
     rw[e0,List.append_nil]at hX
     have e2:(((cur.toList.take (l.length*1)).toArray++(vcur.toList.take 1).toArray++z).toList.take ((l.length+1)*1))=cur.toList.take (l.length*1)++vcur.toList.take 1:=by
      simp only[Array.toList_append]
      exact uI (by rw[hcl,hvl];omega)
     rw[e2]
     exact hX
    ·rw[eZ]
     simp only[Array.size_append,List.size_toArray,hvl,hzz,hcl]
     omega
    ·show(w.heap.push _)[q]? =_
     rw[Array.getElem?_push_lt hq,Array.getElem?_eq_getElem hq]
end Go.Proofs.Led
namespace Go.Proofs.Led
open Go Go.Proofs Go.Ab
set_option maxRecDepth 100000
set_option maxHeartbeats 4000000
theorem dR6(l:List aN)(hl:l.length<=1000000):fnVC T Tryz.prog Tryz.f53 [.sl (l.map aQ)] (.own 88 (l.map aQ)):=by
 have hll:(l.map aQ).length=l.length:=by simp
 have hcl:∀y∈l.map aQ,y.cells.length=14:=fun y hy=>by obtain⟨m,_,rfl⟩:=List.mem_map.1 hy;rfl
 repeat' ((conv=>whnf);first|(refine bV3.mk rfl (of_decide_eq_true (by kernel_rfl)) (by kernel_rfl) (.inl rfl) ?_;intro b hb;cases b)|refine iH rfl (.inl rfl) rfl (of_decide_eq_true rfl) hcl (by show 0+(List.map aQ l).length<=_;omega) ?_|refine zg ?_|refine zr ?_)
 all_goals conv=>whnf
 ·refine⟨⟨⟨rfl,rfl,rfl,rfl⟩,trivial⟩,rfl,fun rs h=>V.noConfusion h⟩
 ·have e:l=[] :=by
   cases l with
   |nil=>rfl
   |cons x l=>exact absurd (hb (by simp)) (by decide)
  subst e
  refine⟨⟨⟨of_decide_eq_true (by kernel_rfl),rfl⟩,trivial⟩,rfl,fun rs h=>V.noConfusion h⟩
theorem aV4(l:List aN)(hl:l.length<=1000000):Sp 53 [.sl (l.map aQ)] (.own 88 (l.map aQ)):=zsp Tryz.func53 (dR6 l hl)
theorem dO4(l:List Piece)(hl:l.length<=1000000):fnVC T Tryz.prog Tryz.f54 [.sl (l.map aZ)] (.own 90 (l.map aZ)):=by
 have hll:(l.map aZ).length=l.length:=by simp
 have hcl:∀y∈l.map aZ,y.cells.length=9:=fun y hy=>by obtain⟨m,_,rfl⟩:=List.mem_map.1 hy;rfl
 repeat' ((conv=>whnf);first|(refine bV3.mk rfl (of_decide_eq_true (by kernel_rfl)) (by kernel_rfl) (.inl rfl) ?_;intro b hb;cases b)|refine iH rfl (.inl rfl) rfl (of_decide_eq_true rfl) hcl (by show 0+(List.map aZ l).length<=_;omega) ?_|refine zg ?_|refine zr ?_)
 all_goals conv=>whnf
 ·refine⟨⟨⟨rfl,rfl,rfl,rfl⟩,trivial⟩,rfl,fun rs h=>V.noConfusion h⟩
 ·have e:l=[] :=by
   cases l with
   |nil=>rfl
   |cons x l=>exact absurd (hb (by simp)) (by decide)
  subst e
  refine⟨⟨⟨of_decide_eq_true (by kernel_rfl),rfl⟩,trivial⟩,rfl,fun rs h=>V.noConfusion h⟩
theorem aV7(l:List Piece)(hl:l.length<=1000000):Sp 54 [.sl (l.map aZ)] (.own 90 (l.map aZ)):=zsp Tryz.func54 (dO4 l hl)
theorem dL1(l:List Int)(hl:l.length<=1000000):fnVC T Tryz.prog Tryz.f55 [.sl (l.map I)] (.own 3 (l.map I)):=by
 have hll:(l.map I).length=l.length:=by simp
 have hcl:∀y∈l.map I,y.cells.length=1:=fun y hy=>by obtain⟨m,_,rfl⟩:=List.mem_map.1 hy;rfl
 repeat' ((conv=>whnf);first|(refine bV3.mk rfl (of_decide_eq_true (by kernel_rfl)) (by kernel_rfl) (.inl rfl) ?_;intro b hb;cases b)|refine iH rfl (.inl rfl) rfl (of_decide_eq_true rfl) hcl (by show 0+(List.map I l).length<=_;omega) ?_|refine zg ?_|refine zr ?_)
 all_goals conv=>whnf
 ·refine⟨⟨⟨rfl,rfl,rfl,rfl⟩,trivial⟩,rfl,fun rs h=>V.noConfusion h⟩
 ·have e:l=[] :=by
   cases l with
   |nil=>rfl
   |cons x l=>exact absurd (hb (by simp)) (by decide)
  subst e
  refine⟨⟨⟨of_decide_eq_true (by kernel_rfl),rfl⟩,trivial⟩,rfl,fun rs h=>V.noConfusion h⟩
theorem aT5(l:List Int)(hl:l.length<=1000000):Sp 55 [.sl (l.map I)] (.own 3 (l.map I)):=zsp Tryz.func55 (dL1 l hl)
def stC(s:aJ):List V:=[.own 88 (s.stocks.map aQ), .own 90 (s.pieces.map aZ), .own 3 (s.used.map I),I s.received.1,I s.received.2,I s.scrap.1,I s.scrap.2]
structure Gd(s:aJ):Prop where
 ls:s.stocks.length<=1000000
 lp:s.pieces.length<=1000000
 lu:s.used.length<=1000000
 ss:(s.stocks.map sid).Pairwise (·<·)
 sp:(s.pieces.map Piece.id).Pairwise (·<·)
 su:(s.used.map id).Pairwise (·<·)
theorem eM1(s:aJ)(n:Int)(hs:Gd s):jR T Tryz.prog Tryz.f135 [.box 100000 0,I n] [stC s] (.tup [I (bs sid s.stocks n),DB (∃m∈s.stocks,sid m=n)]) [stC s] :=by
 have h1:=eB5 (g:=188) (t:=n) (fun m=>cR0 m n) s.stocks hs.ls hs.ss
 generalize bs sid s.stocks n=k at*
 generalize (∃m∈s.stocks,sid m=n)=P at*
 repeat' ((conv=>whnf);first|(refine aS5 (h1) true ?_ rfl ?_;focus ((repeat' (first|exact trivial|refine And.intro ?_ ?_|with_reducible rfl|exact(fun h=>by cases h)|exact rfl));done))|refine zg ?_|refine zq ?_)
 all_goals conv=>whnf
 all_goals first|exact⟨_,rfl,zc1⟩|exact zc1
theorem find_spec(s:aJ)(n:Int)(hs:Gd s):SpB 135 [.box 100000 0,I n] [stC s] (.tup [I (bs sid s.stocks n),DB (∃m∈s.stocks,sid m=n)]) [stC s] :=
 b_of Tryz.func135 (by kernel_rfl) (by kernel_rfl) rfl rfl (eM1 s n hs)
theorem dW2(s:aJ)(n:Int)(hs:Gd s):jR T Tryz.prog Tryz.f140 [.box 100000 0,I n] [stC s] (.tup [I (bs Piece.id s.pieces n),DB (∃m∈s.pieces,m.id=n)]) [stC s] :=by
 have h1:=eG9 (g:=198) (t:=n) (fun m=>cG0 m n) s.pieces hs.lp hs.sp
 generalize bs Piece.id s.pieces n=k at*
 generalize (∃m∈s.pieces,m.id=n)=P at*
 repeat' ((conv=>whnf);first|(refine aS5 (h1) true ?_ rfl ?_;focus ((repeat' (first|exact trivial|refine And.intro ?_ ?_|with_reducible rfl|exact(fun h=>by cases h)|exact rfl));done))|refine zg ?_|refine zq ?_)
 all_goals conv=>whnf
 all_goals first|exact⟨_,rfl,zc1⟩|exact zc1
theorem uQ(s:aJ)(n:Int)(hs:Gd s):SpB 140 [.box 100000 0,I n] [stC s] (.tup [I (bs Piece.id s.pieces n),DB (∃m∈s.pieces,m.id=n)]) [stC s] :=
 b_of Tryz.func140 (by kernel_rfl) (by kernel_rfl) rfl rfl (dW2 s n hs)
def putAt{α:Type}(l:List α)(i:Nat)(x:α):List α:=l.take i++x::l.drop i
theorem aR0{α:Type}(f:α->V)(l:List α)(i:Nat)(x:α):(l.map f).take i++f x::(l.map f).drop i=(putAt l i x).map f:=by
 unfold putAt
 rw[List.map_append,List.map_cons,List.map_take,List.map_drop]
theorem bQ8{α:Type}(key:α->Int)(l:List α)(t:Int):bs key l t<=l.length:=by
 unfold bs
 exact(List.takeWhile_prefix _).length_le
theorem dO3(l:List aN)(i:Nat)(x:aN)(hi:i<=l.length)(hl:l.length<=1000000000):Sp 196 [.own 88 (l.map aQ),I i, .own 88 [aQ x]] (.own 88 ((putAt l i x).map aQ)):=by
 have h:=dL7 (l.map aQ) (aQ x) i (by simpa using hi) (by simpa using hl)
 rw[aR0]at h
 exact h
theorem bU8(l:List Piece)(i:Nat)(x:Piece)(hi:i<=l.length)(hl:l.length<=1000000000):Sp 141 [.own 90 (l.map aZ),I i, .own 90 [aZ x]] (.own 90 ((putAt l i x).map aZ)):=by
 have h:=dO8 (l.map aZ) (aZ x) i (by simpa using hi) (by simpa using hl)
 rw[aR0]at h
 exact h
theorem bP5(l:List Int)(i:Nat)(x:Int)(hi:i<=l.length)(hl:l.length<=1000000000):Sp 191 [.own 3 (l.map I),I i, .own 3 [I x]] (.own 3 ((putAt l i x).map I)):=by
 have h:=dM5 (l.map I) (I x) i (by simpa using hi) (by simpa using hl)
 rw[aR0]at h
 exact h
def putS(l:List aN)(x:aN):List aN:=putAt l (bs sid l (sid x)) x
def addS(s:aJ)(x:aN):aJ:={s with stocks:=putS s.stocks x}
theorem fD2(s:aJ)(x:aN)(hs:Gd s):jR T Tryz.prog Tryz.f139 [.box 100000 0,aQ x] [stC s] (.tup []) [stC (addS s x)] :=by
 have h1:=aE2 x
 have h2:=find_spec s (sid x) hs
 have h3:=dO3 s.stocks (bs sid s.stocks (sid x)) x (bQ8 _ _ _) (by have:=hs.ls;omega)
 unfold addS putS
 generalize sid x=n at*
 generalize bs sid s.stocks n=k at*
 generalize (∃m∈s.stocks,sid m=n)=P at*
 repeat' ((conv=>whnf);first|refine zc h1 ?_|refine zh (h2) [100000] ?_|refine bW8 [] [(21,[88888])] trivial (by kernel_rfl) ?_|refine zh (xX h3) [] ?_|refine zg ?_|refine zq ?_)
 all_goals conv=>whnf
 all_goals first|exact⟨_,rfl,zc1⟩|exact zc1
theorem cF7(s:aJ)(x:aN)(hs:Gd s):SpB 139 [.box 100000 0,aQ x] [stC s] (.tup []) [stC (addS s x)] :=
 b_of Tryz.func139 (by kernel_rfl) (by kernel_rfl) rfl rfl (fD2 s x hs)
theorem fH{α:Type}{l:List α}{i:Nat}{x y:α}:y∈putAt l i x↔y=x\/y∈l:=by
 unfold putAt
 rw[List.mem_append,List.mem_cons]
 constructor
 ·rintro(h|h|h)
  ·exact .inr (List.mem_of_mem_take h)
  ·exact .inl h
  ·exact .inr (List.mem_of_mem_drop h)
 ·rintro(h|h)
  ·exact .inr (.inl h)
  ·rw[<-List.take_append_drop i l,List.mem_append]at h
   rcases h with h|h
   ·exact .inl h
   ·exact .inr (.inr h)
theorem mQ{α:Type}{l:List α}{i:Nat}{x:α}:(putAt l i x).length=l.length+1:=by
 unfold putAt
 rw[List.length_append,List.length_cons,List.length_take,List.length_drop]
 omega
theorem yR{α:Type}{key:α->Int}{x:α}:∀ {l:List α},(l.map key).Pairwise (·<·)->(∀m∈l,key m≠key x)->((putAt l (bs key l (key x)) x).map key).Pairwise (·<·)
 | [],_,_=>by simp[putAt]
 |y::r,hs,hx=>by
  rw[List.map_cons,List.pairwise_cons]at hs
  obtain⟨h1,h2⟩:=hs
  have hyx:=hx y (by simp)
  by_cases h:key y<key x
  ·have e:bs key (y::r) (key x)=bs key r (key x)+1:=by
    unfold bs
    rw[List.takeWhile_cons_of_pos (by simpa using h),List.length_cons]
   have ih:=yR h2 (fun m hm=>hx m (by simp[hm]))
   rw[e]
   show List.Pairwise _ (key y::(putAt r (bs key r (key x)) x).map key)
   rw[List.pairwise_cons]
   refine⟨fun z hz=>?_,ih⟩
   obtain⟨m,hm,rfl⟩:=List.mem_map.1 hz
   rcases fH.1 hm with rfl|hm
   ·exact h
   ·exact h1 _ (List.mem_map_of_mem hm)
  ·have e:bs key (y::r) (key x)=0:=by
    unfold bs
    rw[List.takeWhile_cons_of_neg (by simpa using h)]
    rfl
   rw[e]
   show List.Pairwise _ (key x::key y::r.map key)
   rw[List.pairwise_cons,List.pairwise_cons]
   refine⟨fun z hz=>?_,h1,h2⟩
   rcases List.mem_cons.1 hz with rfl|hz
   ·omega
   ·have:=h1 z hz
    omega
def putN(l:List Int)(n:Int):List Int:=putAt l (bs id l n) n
def cO(used ids:List Int):List Int:=ids.foldl putN used
def dP:List Int->List Int->Prop
 |_,[] =>True
 |used,n::r=>n∉used/\dP (putN used n) r
theorem rF{l:List Int}{n:Int}(hs:(l.map id).Pairwise (·<·))(hn:n∉l):((putN l n).map id).Pairwise (·<·):=
 yR (key:=id) (x:=n) hs (fun m hm e=>hn (by rw[<-show m=n from e];exact hm))
theorem aW4(used D:List Int)(n:Int):cO used (D++[n])=putN (cO used D) n:=by unfold cO;simp
def stB(s:aJ)(g:Nat):List V:=[.arr 100000 0, .arr 100001 0, .arr 100002 g,I s.received.1,I s.received.2,I s.scrap.1,I s.scrap.2]
def stA(s:aJ)(used:List Int)(g:Nat):List (Nat×AE):=[(100000,⟨0, .own,88,s.stocks.map aQ⟩),(100001,⟨0, .own,90,s.pieces.map aZ⟩),(100002,⟨g, .own,3,used.map I⟩)]
abbrev bots:List V:=[.bot, .bot, .bot, .bot, .bot, .bot, .bot]
theorem dR8(s:aJ)(ids:List Int)(hs:Gd s)(hl:s.used.length+ids.length<=1000000)(hok:dP s.used ids):jR T Tryz.prog Tryz.f136 [.box 100000 0, .sl (ids.map I)] [stC s] (I 0) [stC {s with used:=cO s.used ids}] :=by
 have hll:(ids.map I).length=ids.length:=by simp
 repeat' ((conv=>whnf);first|refine zg ?_)
 refine aU (A:=List Int) (B:=List Int) (fun D R=>mkSt [(0, .box 100000 0),(9, .sl (ids.map I)),(10,I ids.length),(11,I D.length)] [(100000,stB s D.length)] (stA s (cO s.used D) D.length))
  (fun D R=>ids=D++R/\((cO s.used D).map id).Pairwise (·<·)/\(cO s.used D).length=s.used.length+D.length/\(dP s.used ids↔dP (cO s.used D) R)) (fun D R=>R.length) [] ids ?_ ⟨rfl,hs.su,rfl,Iff.rfl⟩ (fun D R hp=>?_)
 ·refine dV ?_ ?_ ?_ ?_
  all_goals repeat' (first|exact trivial|refine And.intro ?_ ?_|with_reducible rfl|exact(fun h=>by cases h)|exact Nat.le_refl _|omega|exact rfl)
  all_goals (try rw[hll])
 obtain⟨hp,hps,hpl,hpo⟩:=hp
 cases R with
 |nil=>
  have hlen:ids.length=D.length:=by rw[hp];simp
  have e:ids=D:=by rw[hp];simp
  rw[e]
  rw[e]at hlen hll
  repeat' ((conv=>whnf);first|(exfalso;omega)|refine zg ?_|refine zz (fun _=>?_) fun _=>?_|refine zq ?_)
  all_goals conv=>whnf
  all_goals first|exact⟨_,rfl,zc1⟩|exact zc1
 |cons n R=>
  have hlen:=aO hp
  have h1:=cQ0 n (cO s.used D) (by rw[hpl];omega) hps
  have h2:=bP5 (cO s.used D) (bs id (cO s.used D) n) n (bQ8 _ _ _) (by rw[hpl];omega)
  have hsn:=aW4 s.used D n
  have hps2:=fun h=>rF (n:=n) hps h
  have hlp:(putN (cO s.used D) n).length=(cO s.used D).length+1:=mQ
  have hq:dP (cO s.used D) (n::R)↔n∉cO s.used D/\dP (putN (cO s.used D) n) R:=Iff.rfl
  have hmm:(∃m∈cO s.used D,m=n)↔n∈cO s.used D:=⟨fun⟨m,h,e⟩=>e▸h,fun h=>⟨n,h,rfl⟩⟩
  have hlD:((D++[n]).length:Int)=(D.length:Int)+1:=by simp
  generalize cO s.used D=U at*
  have hpu:putN U n=putAt U (bs id U n) n:=rfl
  rw[<-hpu]at h2
  generalize bs id U n=k at*
  generalize putN U n=U' at*
  generalize (∃m∈U,m=n)=P at*
  repeat' ((conv=>whnf);first|(exfalso;omega)|refine aB (l:=ids) (by omega) ?_|refine aF (l:=ids) (A:=D) (x:=n) (B:=R) hp (by omega) ?_|(refine aS5 (h1) true ?_ rfl ?_;focus ((repeat' (first|exact trivial|refine And.intro ?_ ?_|with_reducible rfl|exact(fun h=>by cases h)|exact rfl));done))|refine zh (xX h2) [] ?_|refine zg ?_|refine za ?_|refine zz (fun _=>?_) fun _=>?_|refine zq ?_)
  all_goals conv=>whnf
  ·exact absurd (hmm.1 (by assumption)) (hq.1 (hpo.1 hok)).1
  all_goals refine⟨(D++[n],R),?_,⟨by rw[hp];simp,by rw[hsn];exact hps2 (fun h=>absurd (hmm.2 h) (by assumption)),by rw[hsn,hlp,hpl,List.length_append,List.length_singleton];omega,by rw[hsn,hpo,hq];exact⟨fun h=>h.2,fun h=>⟨fun h'=>absurd (hmm.2 h') (by assumption),h⟩⟩⟩,by simp⟩
  simp only[hsn,List.length_append,List.length_singleton]
  exact zj
theorem aT7(s:aJ)(ids:List Int)(hs:Gd s)(hl:s.used.length+ids.length<=1000000)(hok:dP s.used ids):SpB 136 [.box 100000 0, .sl (ids.map I)] [stC s] (I 0) [stC {s with used:=cO s.used ids}] :=
 b_of Tryz.func136 (by kernel_rfl) (by kernel_rfl) rfl rfl (dR8 s ids hs hl hok)
theorem dN4(s:aJ)(ids:List Int)(hs:Gd s)(hl:s.used.length+ids.length<=1000000)(hok:¬dP s.used ids):jR T Tryz.prog Tryz.f136 [.box 100000 0, .sl (ids.map I)] [stC s] (I 7) [bots] :=by
 have hll:(ids.map I).length=ids.length:=by simp
 repeat' ((conv=>whnf);first|refine zg ?_)
 refine aU (A:=List Int) (B:=List Int) (fun D R=>mkSt [(0, .box 100000 0),(9, .sl (ids.map I)),(10,I ids.length),(11,I D.length)] [(100000,stB s D.length)] (stA s (cO s.used D) D.length))
  (fun D R=>ids=D++R/\((cO s.used D).map id).Pairwise (·<·)/\(cO s.used D).length=s.used.length+D.length/\(dP s.used ids↔dP (cO s.used D) R)) (fun D R=>R.length) [] ids ?_ ⟨rfl,hs.su,rfl,Iff.rfl⟩ (fun D R hp=>?_)
 ·refine dV ?_ ?_ ?_ ?_
  all_goals repeat' (first|exact trivial|refine And.intro ?_ ?_|with_reducible rfl|exact(fun h=>by cases h)|exact Nat.le_refl _|omega|exact rfl)
  all_goals (try rw[hll])
 obtain⟨hp,hps,hpl,hpo⟩:=hp
 cases R with
 |nil=>
  have hlen:ids.length=D.length:=by rw[hp];simp
  have e:ids=D:=by rw[hp];simp
  exact absurd (hpo.2 trivial) hok
 |cons n R=>
  have hlen:=aO hp
  have h1:=cQ0 n (cO s.used D) (by rw[hpl];omega) hps
  have h2:=bP5 (cO s.used D) (bs id (cO s.used D) n) n (bQ8 _ _ _) (by rw[hpl];omega)
  have hsn:=aW4 s.used D n
  have hps2:=fun h=>rF (n:=n) hps h
  have hlp:(putN (cO s.used D) n).length=(cO s.used D).length+1:=mQ
  have hq:dP (cO s.used D) (n::R)↔n∉cO s.used D/\dP (putN (cO s.used D) n) R:=Iff.rfl
  have hmm:(∃m∈cO s.used D,m=n)↔n∈cO s.used D:=⟨fun⟨m,h,e⟩=>e▸h,fun h=>⟨n,h,rfl⟩⟩
  have hlD:((D++[n]).length:Int)=(D.length:Int)+1:=by simp
  generalize cO s.used D=U at*
  have hpu:putN U n=putAt U (bs id U n) n:=rfl
  rw[<-hpu]at h2
  generalize bs id U n=k at*
  generalize putN U n=U' at*
  generalize (∃m∈U,m=n)=P at*
  repeat' ((conv=>whnf);first|(exfalso;omega)|refine aB (l:=ids) (by omega) ?_|refine aF (l:=ids) (A:=D) (x:=n) (B:=R) hp (by omega) ?_|(refine aS5 (h1) true ?_ rfl ?_;focus ((repeat' (first|exact trivial|refine And.intro ?_ ?_|with_reducible rfl|exact(fun h=>by cases h)|exact rfl));done))|refine zh (xX h2) [] ?_|refine zg ?_|refine za ?_|refine zz (fun _=>?_) fun _=>?_|refine zq ?_)
  all_goals conv=>whnf
  ·skip
   all_goals conv=>whnf
   all_goals first|exact⟨_,rfl,zc1⟩|exact zc1
  all_goals refine⟨(D++[n],R),?_,⟨by rw[hp];simp,by rw[hsn];exact hps2 (fun h=>absurd (hmm.2 h) (by assumption)),by rw[hsn,hlp,hpl,List.length_append,List.length_singleton];omega,by rw[hsn,hpo,hq];exact⟨fun h=>h.2,fun h=>⟨fun h'=>absurd (hmm.2 h') (by assumption),h⟩⟩⟩,by simp⟩
  simp only[hsn,List.length_append,List.length_singleton]
  exact zj
theorem aU4(s:aJ)(ids:List Int)(hs:Gd s)(hl:s.used.length+ids.length<=1000000)(hok:¬dP s.used ids):SpB 136 [.box 100000 0, .sl (ids.map I)] [stC s] (I 7) [bots] :=
 b_of Tryz.func136 (by kernel_rfl) (by kernel_rfl) rfl rfl (dN4 s ids hs hl hok)
theorem aB8{α:Type}{key:α->Int}{t:Int}:∀ {l:List α},(l.map key).Pairwise (·<·)->(∃y∈l,key y=t)->∃m,l[bs key l t]? =some m/\key m=t
 | [],_,⟨y,hy,_⟩=>by cases hy
 |x::r,hs,⟨y,hy,e⟩=>by
  rw[List.map_cons,List.pairwise_cons]at hs
  obtain⟨h1,h2⟩:=hs
  by_cases h:key x<t
  ·have eb:bs key (x::r) t=bs key r t+1:=by
    unfold bs
    rw[List.takeWhile_cons_of_pos (by simpa using h),List.length_cons]
   rcases List.mem_cons.1 hy with rfl|hy
   ·omega
   ·obtain⟨m,hm,e2⟩:=aB8 h2 ⟨y,hy,e⟩
    exact⟨m,by rw[eb];exact hm,e2⟩
  ·have eb:bs key (x::r) t=0:=by
    unfold bs
    rw[List.takeWhile_cons_of_neg (by simpa using h)]
    rfl
   rcases List.mem_cons.1 hy with rfl|hy
   ·exact⟨y,by rw[eb];rfl,e⟩
   ·have:=h1 _ (List.mem_map_of_mem hy)
    omega
def prog(x:aN)(p:ByteArray):aN:={x with program:=p}
def setK(s:aJ)(k:Nat)(x:aN):aJ:={s with stocks:=s.stocks.set k x}
theorem cP1(s:aJ)(k:Nat)(x:aN):stC (setK s k x)=[.own 88 ((s.stocks.map aQ).set ((k:Int)).toNat (aQ x)), .own 90 (s.pieces.map aZ), .own 3 (s.used.map I),I s.received.1,I s.received.2,I s.scrap.1,I s.scrap.2] :=by
 unfold stC setK
 rw[Int.toNat_natCast,List.map_set]
theorem cH5(s:aJ)(e:Event)(m:aN)(hs:Gd s)(hf:∃m∈s.stocks,sid m=e.id)(hm:s.stocks[bs sid s.stocks e.id]? =some m)(hp:m.program=aI):
 jR T Tryz.prog Tryz.f58 [.box 100000 0,aS e] [stC s] (I 0) [stC (setK s (bs sid s.stocks e.id) (prog m e.text))] :=by
 have h1:=find_spec s e.id hs
 have hkl:=(List.getElem?_eq_some_iff.1 hm).1
 have hll:(s.stocks.map aQ).length=s.stocks.length:=by simp
 have hl:=hs.ls
 generalize bs sid s.stocks e.id=k at*
 generalize (∃m∈s.stocks,sid m=e.id)=P at*
 rw[cP1]
 repeat' ((conv=>whnf);first|(exfalso;contradiction)|refine jI (fun heq=>?_) (fun heq=>?_)|refine zh (h1) [100000] ?_|refine dS rfl rfl (by show 0<=_/\_< ((s.stocks.map aQ).length:Int);omega) ?_|refine dB8 rfl rfl ?_|refine gK (l:=s.stocks) hm (by omega) ?_|refine zg ?_|refine zi ?_|refine zn ?_|refine zv ?_|refine zz (fun _=>?_) fun _=>?_|refine zq ?_)
 all_goals conv=>whnf
 all_goals first|exact⟨_,rfl,zc1⟩|exact zc1
theorem bM2(s:aJ)(e:Event)(m:aN)(hs:Gd s)(hf:∃m∈s.stocks,sid m=e.id)(hm:s.stocks[bs sid s.stocks e.id]? =some m)(hp:m.program=aI):
 SpB 58 [.box 100000 0,aS e] [stC s] (I 0) [stC (setK s (bs sid s.stocks e.id) (prog m e.text))] :=
 b_of Tryz.func58 (by kernel_rfl) (by kernel_rfl) rfl rfl (cH5 s e m hs hf hm hp)
theorem cM4(s:aJ)(e:Event)(m:aN)(hs:Gd s)(hf:∃m∈s.stocks,sid m=e.id)(hm:s.stocks[bs sid s.stocks e.id]? =some m)(hp:¬(m.program=aI)):
 jR T Tryz.prog Tryz.f58 [.box 100000 0,aS e] [stC s] (I 27) [bots] :=by
 have h1:=find_spec s e.id hs
 have hkl:=(List.getElem?_eq_some_iff.1 hm).1
 have hll:(s.stocks.map aQ).length=s.stocks.length:=by simp
 have hl:=hs.ls
 generalize bs sid s.stocks e.id=k at*
 generalize (∃m∈s.stocks,sid m=e.id)=P at*
 repeat' ((conv=>whnf);first|(exfalso;contradiction)|refine jI (fun heq=>?_) (fun heq=>?_)|refine zh (h1) [100000] ?_|refine dS rfl rfl (by show 0<=_/\_< ((s.stocks.map aQ).length:Int);omega) ?_|refine gK (l:=s.stocks) hm (by omega) ?_|refine zg ?_|refine zn ?_|refine zv ?_|refine zz (fun _=>?_) fun _=>?_|refine zq ?_)
 all_goals conv=>whnf
 all_goals first|exact⟨_,rfl,zc1⟩|exact zc1
theorem bM0(s:aJ)(e:Event)(m:aN)(hs:Gd s)(hf:∃m∈s.stocks,sid m=e.id)(hm:s.stocks[bs sid s.stocks e.id]? =some m)(hp:¬(m.program=aI)):
 SpB 58 [.box 100000 0,aS e] [stC s] (I 27) [bots] :=
 b_of Tryz.func58 (by kernel_rfl) (by kernel_rfl) rfl rfl (cM4 s e m hs hf hm hp)
theorem cI5(s:aJ)(e:Event)(hs:Gd s)(hf:¬∃m∈s.stocks,sid m=e.id):
 jR T Tryz.prog Tryz.f58 [.box 100000 0,aS e] [stC s] (I 8) [bots] :=by
 have h1:=find_spec s e.id hs
 generalize bs sid s.stocks e.id=k at*
 generalize (∃m∈s.stocks,sid m=e.id)=P at*
 repeat' ((conv=>whnf);first|(exfalso;contradiction)|refine zh (h1) [100000] ?_|refine zg ?_|refine zn ?_|refine zz (fun _=>?_) fun _=>?_|refine zq ?_)
 all_goals conv=>whnf
 all_goals first|exact⟨_,rfl,zc1⟩|exact zc1
theorem bN7(s:aJ)(e:Event)(hs:Gd s)(hf:¬∃m∈s.stocks,sid m=e.id):
 SpB 58 [.box 100000 0,aS e] [stC s] (I 8) [bots] :=
 b_of Tryz.func58 (by kernel_rfl) (by kernel_rfl) rfl rfl (cI5 s e hs hf)
theorem cR7(s:aJ)(e:Event)(m:aN)(hs:Gd s)(hf:∃m∈s.stocks,sid m=e.id)(hm:s.stocks[bs sid s.stocks e.id]? =some m)(hp:m.program≠aI):
 jR T Tryz.prog Tryz.f59 [.box 100000 0,aS e] [stC s] (I 0) [stC (setK s (bs sid s.stocks e.id) (prog m aI))] :=by
 have h1:=find_spec s e.id hs
 have hkl:=(List.getElem?_eq_some_iff.1 hm).1
 have hll:(s.stocks.map aQ).length=s.stocks.length:=by simp
 have hl:=hs.ls
 generalize bs sid s.stocks e.id=k at*
 generalize (∃m∈s.stocks,sid m=e.id)=P at*
 rw[cP1]
 repeat' ((conv=>whnf);first|(exfalso;contradiction)|refine jI (fun heq=>?_) (fun heq=>?_)|refine zh (h1) [100000] ?_|refine dS rfl rfl (by show 0<=_/\_< ((s.stocks.map aQ).length:Int);omega) ?_|refine dB8 rfl rfl ?_|refine gK (l:=s.stocks) hm (by omega) ?_|refine zg ?_|refine zn ?_|refine zv ?_|refine zz (fun _=>?_) fun _=>?_|refine zq ?_)
 all_goals conv=>whnf
 all_goals first|exact⟨_,rfl,zc1⟩|exact zc1
theorem bZ5(s:aJ)(e:Event)(m:aN)(hs:Gd s)(hf:∃m∈s.stocks,sid m=e.id)(hm:s.stocks[bs sid s.stocks e.id]? =some m)(hp:m.program≠aI):
 SpB 59 [.box 100000 0,aS e] [stC s] (I 0) [stC (setK s (bs sid s.stocks e.id) (prog m aI))] :=
 b_of Tryz.func59 (by kernel_rfl) (by kernel_rfl) rfl rfl (cR7 s e m hs hf hm hp)
theorem cX3(s:aJ)(e:Event)(m:aN)(hs:Gd s)(hf:∃m∈s.stocks,sid m=e.id)(hm:s.stocks[bs sid s.stocks e.id]? =some m)(hp:¬(m.program≠aI)):
 jR T Tryz.prog Tryz.f59 [.box 100000 0,aS e] [stC s] (I 10) [bots] :=by
 have h1:=find_spec s e.id hs
 have hkl:=(List.getElem?_eq_some_iff.1 hm).1
 have hll:(s.stocks.map aQ).length=s.stocks.length:=by simp
 have hl:=hs.ls
 generalize bs sid s.stocks e.id=k at*
 generalize (∃m∈s.stocks,sid m=e.id)=P at*
 repeat' ((conv=>whnf);first|(exfalso;contradiction)|refine jI (fun heq=>?_) (fun heq=>?_)|refine zh (h1) [100000] ?_|refine dS rfl rfl (by show 0<=_/\_< ((s.stocks.map aQ).length:Int);omega) ?_|refine gK (l:=s.stocks) hm (by omega) ?_|refine zg ?_|refine zn ?_|refine zv ?_|refine zz (fun _=>?_) fun _=>?_|refine zq ?_)
 all_goals conv=>whnf
 all_goals first|exact⟨_,rfl,zc1⟩|exact zc1
theorem cB5(s:aJ)(e:Event)(m:aN)(hs:Gd s)(hf:∃m∈s.stocks,sid m=e.id)(hm:s.stocks[bs sid s.stocks e.id]? =some m)(hp:¬(m.program≠aI)):
 SpB 59 [.box 100000 0,aS e] [stC s] (I 10) [bots] :=
 b_of Tryz.func59 (by kernel_rfl) (by kernel_rfl) rfl rfl (cX3 s e m hs hf hm hp)
theorem cQ4(s:aJ)(e:Event)(hs:Gd s)(hf:¬∃m∈s.stocks,sid m=e.id):
 jR T Tryz.prog Tryz.f59 [.box 100000 0,aS e] [stC s] (I 8) [bots] :=by
 have h1:=find_spec s e.id hs
 generalize bs sid s.stocks e.id=k at*
 generalize (∃m∈s.stocks,sid m=e.id)=P at*
 repeat' ((conv=>whnf);first|(exfalso;contradiction)|refine zh (h1) [100000] ?_|refine zg ?_|refine zn ?_|refine zz (fun _=>?_) fun _=>?_|refine zq ?_)
 all_goals conv=>whnf
 all_goals first|exact⟨_,rfl,zc1⟩|exact zc1
theorem cA0(s:aJ)(e:Event)(hs:Gd s)(hf:¬∃m∈s.stocks,sid m=e.id):
 SpB 59 [.box 100000 0,aS e] [stC s] (I 8) [bots] :=
 b_of Tryz.func59 (by kernel_rfl) (by kernel_rfl) rfl rfl (cQ4 s e hs hf)
theorem cV1{l:List V}{i j:Nat}{v:V}{K:V->Prop}(h:j=i)(hi:i<l.length)(hk:K v):idx (l.set i v) j K:=by
 subst h
 exact dE3 _ (by rw[List.getElem?_set_self hi]) hk
def setP(s:aJ)(k:Nat)(x:Piece):aJ:={s with pieces:=s.pieces.set k x}
theorem eI0(s:aJ)(k:Nat)(x y:Piece):stC (setP s k x)=[.own 88 (s.stocks.map aQ), .own 90 (((s.pieces.map aZ).set ((k:Int)).toNat (aZ y)).set ((k:Int)).toNat (aZ x)), .own 3 (s.used.map I),I s.received.1,I s.received.2,I s.scrap.1,I s.scrap.2] :=by
 unfold stC setP
 rw[Int.toNat_natCast,List.set_set,List.map_set]
def marked(m:Piece)(st:Int)(o:ByteArray):Piece:={m with status:=st,order:=o}
theorem dU8(s:aJ)(n st:Int)(o:ByteArray)(m:Piece)(hs:Gd s)(hf:∃m∈s.pieces,m.id=n)(hm:s.pieces[bs Piece.id s.pieces n]? =some m)(hp:m.status=1):
 jR T Tryz.prog Tryz.f142 [.box 100000 0,I n,I st,S o] [stC s] (I 0) [stC (setP s (bs Piece.id s.pieces n) (marked m st o))] :=by
 have h1:=uQ s n hs
 have hkl:=(List.getElem?_eq_some_iff.1 hm).1
 have hll:(s.pieces.map aZ).length=s.pieces.length:=by simp
 have hl:=hs.lp
 generalize bs Piece.id s.pieces n=k at*
 generalize (∃m∈s.pieces,m.id=n)=P at*
 rw[eI0 s k (marked m st o) {m with status:=st}]
 repeat' ((conv=>whnf);first|(exfalso;contradiction)|refine zh (h1) [100000] ?_|refine dS rfl rfl (by show 0<=_/\_< ((s.pieces.map aZ).length:Int);omega) ?_|refine dS rfl rfl (by refine⟨by omega,?_⟩;show _< ((List.set (s.pieces.map aZ) _ _).length:Int);rw[List.length_set];omega) ?_|refine dB8 rfl rfl ?_|refine gK (l:=s.pieces) hm (by omega) ?_|refine cV1 rfl (by rw[hll];omega) ?_|refine zg ?_|refine zi ?_|refine zn ?_|refine zv ?_|refine zz (fun _=>?_) fun _=>?_|refine zq ?_)
 all_goals conv=>whnf
 all_goals first|exact⟨_,rfl,zc1⟩|exact zc1
theorem cU5(s:aJ)(n st:Int)(o:ByteArray)(m:Piece)(hs:Gd s)(hf:∃m∈s.pieces,m.id=n)(hm:s.pieces[bs Piece.id s.pieces n]? =some m)(hp:m.status=1):
 SpB 142 [.box 100000 0,I n,I st,S o] [stC s] (I 0) [stC (setP s (bs Piece.id s.pieces n) (marked m st o))] :=
 b_of Tryz.func142 (by kernel_rfl) (by kernel_rfl) rfl rfl (dU8 s n st o m hs hf hm hp)
theorem eE6(s:aJ)(n st:Int)(o:ByteArray)(m:Piece)(hs:Gd s)(hf:∃m∈s.pieces,m.id=n)(hm:s.pieces[bs Piece.id s.pieces n]? =some m)(hp:¬m.status=1):
 jR T Tryz.prog Tryz.f142 [.box 100000 0,I n,I st,S o] [stC s] (I 10) [bots] :=by
 have h1:=uQ s n hs
 have hkl:=(List.getElem?_eq_some_iff.1 hm).1
 have hll:(s.pieces.map aZ).length=s.pieces.length:=by simp
 have hl:=hs.lp
 generalize bs Piece.id s.pieces n=k at*
 generalize (∃m∈s.pieces,m.id=n)=P at*
 repeat' ((conv=>whnf);first|(exfalso;contradiction)|refine zh (h1) [100000] ?_|refine dS rfl rfl (by show 0<=_/\_< ((s.pieces.map aZ).length:Int);omega) ?_|refine gK (l:=s.pieces) hm (by omega) ?_|refine zg ?_|refine zn ?_|refine zv ?_|refine zz (fun _=>?_) fun _=>?_|refine zq ?_)
 all_goals conv=>whnf
 all_goals first|exact⟨_,rfl,zc1⟩|exact zc1
theorem cR1(s:aJ)(n st:Int)(o:ByteArray)(m:Piece)(hs:Gd s)(hf:∃m∈s.pieces,m.id=n)(hm:s.pieces[bs Piece.id s.pieces n]? =some m)(hp:¬m.status=1):
 SpB 142 [.box 100000 0,I n,I st,S o] [stC s] (I 10) [bots] :=
 b_of Tryz.func142 (by kernel_rfl) (by kernel_rfl) rfl rfl (eE6 s n st o m hs hf hm hp)
theorem eL2(s:aJ)(n st:Int)(o:ByteArray)(hs:Gd s)(hf:¬∃m∈s.pieces,m.id=n):
 jR T Tryz.prog Tryz.f142 [.box 100000 0,I n,I st,S o] [stC s] (I 8) [bots] :=by
 have h1:=uQ s n hs
 generalize bs Piece.id s.pieces n=k at*
 generalize (∃m∈s.pieces,m.id=n)=P at*
 repeat' ((conv=>whnf);first|(exfalso;contradiction)|refine zh (h1) [100000] ?_|refine zg ?_|refine zn ?_|refine zz (fun _=>?_) fun _=>?_|refine zq ?_)
 all_goals conv=>whnf
 all_goals first|exact⟨_,rfl,zc1⟩|exact zc1
theorem cX9(s:aJ)(n st:Int)(o:ByteArray)(hs:Gd s)(hf:¬∃m∈s.pieces,m.id=n):
 SpB 142 [.box 100000 0,I n,I st,S o] [stC s] (I 8) [bots] :=
 b_of Tryz.func142 (by kernel_rfl) (by kernel_rfl) rfl rfl (eL2 s n st o hs hf)
theorem dP5(s:aJ)(e:Event){r:Int}{bs':List (List V)}(hl:bs'=[bots]\/∃s',bs'=[stC s'])(h:SpB 142 [.box 100000 0,I e.id,I 2,S aI] [stC s] (I r) bs'):
 jR T Tryz.prog Tryz.f61 [.box 100000 0,aS e] [stC s] (I r) bs':=by
 rcases hl with rfl|⟨s',rfl⟩
 ·repeat' ((conv=>whnf);first|refine zh (h) [100000] ?_|refine zg ?_|refine zq ?_)
  all_goals conv=>whnf
  all_goals first|exact⟨_,rfl,zc1⟩|exact zc1
 ·repeat' ((conv=>whnf);first|refine zh (h) [100000] ?_|refine zg ?_|refine zq ?_)
  all_goals conv=>whnf
  all_goals first|exact⟨_,rfl,zc1⟩|exact zc1
theorem aU1(s:aJ)(e:Event){r:Int}{bs':List (List V)}(hl:bs'=[bots]\/∃s',bs'=[stC s'])(h:SpB 142 [.box 100000 0,I e.id,I 2,S aI] [stC s] (I r) bs'):
 SpB 61 [.box 100000 0,aS e] [stC s] (I r) bs':=
 b_of Tryz.func61 (by kernel_rfl) (by kernel_rfl) rfl (by rcases hl with rfl|⟨s',rfl⟩<;>rfl) (dP5 s e hl h)
theorem eR6(s:aJ)(e:Event){r:Int}{bs':List (List V)}(hl:bs'=[bots]\/∃s',bs'=[stC s'])(h:SpB 142 [.box 100000 0,I e.id,I 3,S e.text] [stC s] (I r) bs'):
 jR T Tryz.prog Tryz.f62 [.box 100000 0,aS e] [stC s] (I r) bs':=by
 rcases hl with rfl|⟨s',rfl⟩
 ·repeat' ((conv=>whnf);first|refine zh (h) [100000] ?_|refine zg ?_|refine zq ?_)
  all_goals conv=>whnf
  all_goals first|exact⟨_,rfl,zc1⟩|exact zc1
 ·repeat' ((conv=>whnf);first|refine zh (h) [100000] ?_|refine zg ?_|refine zq ?_)
  all_goals conv=>whnf
  all_goals first|exact⟨_,rfl,zc1⟩|exact zc1
theorem bS3(s:aJ)(e:Event){r:Int}{bs':List (List V)}(hl:bs'=[bots]\/∃s',bs'=[stC s'])(h:SpB 142 [.box 100000 0,I e.id,I 3,S e.text] [stC s] (I r) bs'):
 SpB 62 [.box 100000 0,aS e] [stC s] (I r) bs':=
 b_of Tryz.func62 (by kernel_rfl) (by kernel_rfl) rfl (by rcases hl with rfl|⟨s',rfl⟩<;>rfl) (eR6 s e hl h)
end Go.Proofs.Led
