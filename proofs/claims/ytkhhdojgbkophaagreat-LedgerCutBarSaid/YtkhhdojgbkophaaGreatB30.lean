/-
  The library's Insert at one type of elements: the element x put in at the place i.
-/
import Derived.Test.YtkhhdojgbkophaaGreatB28
import Derived.Test.YtkhhdojgbkophaaGreatSI1
set_option linter.unusedVariables false
set_option linter.unusedSimpArgs false
namespace Go.Proofs.Led
open Go Go.Proofs Go.Ab
set_option maxRecDepth 1000000
set_option maxHeartbeats 4000000
theorem dO8(l:List V)(x:V)(i:Nat)(hi:i<=l.length)(hl:l.length<=1000000000):Sp 141 [.own 90 l,I i, .own 90 [x]] (.own 90 (l.take i++x::l.drop i)):=by
 have eZ:(T.row 90).size=9:=by kernel_rfl
 refine⟨by kernel_rfl,fun w G cs h1 h2 h3 h4 h5=>?_⟩
 obtain⟨v0,v1,v2,rfl⟩:=arr3 h1
 have r0:Rb T w G 0 v0 (.own 90 l):=h4 0 v0 _ rfl rfl
 have r1:v1= .int .i64 i:=aN3 (h4 1 v1 (I i) rfl rfl)
 have r2:Rb T w G 2 v2 (.own 90 [x]):=h4 2 v2 _ rfl rfl
 subst r1
 obtain⟨hE,hpl,ho⟩:=r0
 obtain⟨_,hpx,hx⟩:=r2
 obtain⟨vb,vc,vcur,rfl,hvO,hv,hvs,hxl,hxr⟩:=bY9 hx
 rw[eZ]at hvs hxr
 have hxl':=hxl
 rw[eZ]at hxl'
 have hpx':x.pure:=aH.1 hpx x (by simp)
 have hpL:bM (l.take i++x::l.drop i):=aH.2 fun y hy=>by
  rcases List.mem_append.1 hy with h|h
  ·exact aH.1 hpl y (List.mem_of_mem_take h)
  ·rcases List.mem_cons.1 h with rfl|h
   ·exact hpx'
   ·exact aH.1 hpl y (List.mem_of_mem_drop h)
 have hlen:(l.take i++x::l.drop i).length=l.length+1:=by simp;omega
 have hone:∀v∈vcur.toList.take 9,v.oneCell'=true:=hxr.one
 have hvl:(vcur.toList.take 9).length=9:=by rw[List.length_take,Array.length_toList];omega
 have hvw:vb<w.heap.size:=(Array.getElem?_eq_some_iff.1 hv).1
 have hflat:(l.take i++x::l.drop i).flatMap V.cells=(l.take i).flatMap V.cells++x.cells++(l.drop i).flatMap V.cells:=by simp[List.flatMap_append,List.flatMap_cons]
 rcases ho with⟨hn0,rfl⟩|⟨b,c,cur,rfl,hO,hb,hlc,hcm,hcs,hzl,hrl⟩
 ·have hi0:i=0:=by simpa using hi
  subst hi0
  obtain⟨base,rfl⟩:∃base,v0= .slice base 0 0:=by
   rcases hn0 with rfl|⟨a,rfl⟩
   ·exact⟨none,rfl⟩
   ·exact⟨some a,rfl⟩
  refine(bU5 base 0 0 vb vc [] vcur w (Nat.le_refl _) (by omega) (by omega) (fun _=>⟨rfl,rfl⟩) (fun a h j v hj=>by simp at hj) rfl hv hvs).mono ?_
  rintro e w' ⟨c',z,rfl,hc1,hc2,hzz,rfl⟩
  have hz':∀y∈([x] :List V),y.cells.length=(T.row 90).size:=fun y hy=>by rw[List.mem_singleton.1 hy];exact hxl
  refine jM (L:=[x]) (n:=0+1) hE hpx rfl hz' ?_ Array.getElem?_push_size ?_ hc1 hc2 h2 h3 (.inr (Nat.le_refl _)) (fun q hq _=>?_) (by show _<=(w.heap.push _).size;rw[Array.size_push];omega) rfl rfl rfl
  ·rw[eZ]
   have e2:((([] :List Value).toArray++(vcur.toList.take 9).toArray++z).toList.take ((0+1)*9))=vcur.toList.take 9:=by
    simp only[Array.toList_append,List.nil_append]
    rw[List.take_append_of_le_length (by rw[hvl];omega)]
    exact List.take_of_length_le (by rw[hvl];omega)
   rw[e2]
   simpa using hxr
  ·rw[eZ]
   simp only[Array.size_append,List.size_toArray,hvl,hzz,List.length_nil]
   omega
  ·show(w.heap.push _)[q]? =_
   rw[Array.getElem?_push_lt hq,Array.getElem?_eq_getElem hq]
 ·rw[eZ]at hcs hrl
  have hcur0:cur.toList.length=c*9:=by rw[<-hcs];exact Array.length_toList
  have hzl':=hzl
  rw[eZ]at hzl'
  have hbw:b<w.heap.size:=(Array.getElem?_eq_some_iff.1 hb).1
  have hne:vb≠b:=by rintro rfl;rw[hvO]at hO;cases hO
  have hz':∀y∈l.take i++x::l.drop i,y.cells.length=(T.row 90).size:=fun y hy=>by
   rcases List.mem_append.1 hy with h|h
   ·exact hzl y (List.mem_of_mem_take h)
   ·rcases List.mem_cons.1 h with rfl|h
    ·exact hxl
    ·exact hzl y (List.mem_of_mem_drop h)
  obtain⟨f1,f2⟩:=xW hzl' hi
  have hA:RvL w G (cur.toList.take (i*9)) ((l.take i).flatMap V.cells):=by
   have:=aM1 hrl (i*9)
   rw[List.take_take,Nat.min_eq_left (by omega),f1]at this
   exact this
  have hM:RvL w G ((cur.toList.drop (i*9)).take ((l.length-i)*9)) ((l.drop i).flatMap V.cells):=by
   have:=aL4 hrl (i*9)
   rw[f2,List.drop_take,show l.length*9-i*9=(l.length-i)*9 by omega]at this
   exact this
  have hml:((cur.toList.drop (i*9)).take ((l.length-i)*9)).length=(l.length-i)*9:=by rw[List.length_take,List.length_drop,hcur0];omega
  have hX:RvL w G (cur.toList.take (i*9)++vcur.toList.take 9++(cur.toList.drop (i*9)).take ((l.length-i)*9)) ((l.take i++x::l.drop i).flatMap V.cells):=by
   rw[hflat]
   exact oH (oH hA hxr) hM
  have ep:i*9+(vcur.toList.take 9).length=(i+1)*9:=by rw[hvl];omega
  have et:i*9+(vcur.toList.take 9).length+((cur.toList.drop (i*9)).take ((l.length-i)*9)).length=(l.length+1)*9:=by rw[hml,hvl];omega
  have hc63:c<=9223372036854775807:=by unfold maxLen at hcm;omega
  by_cases hroom:l.length+1<=c
  ·by_cases hin:i<l.length
   ·refine(cU1 b l.length c i vb vc cur vcur w hin hroom hc63 hne hb hv hcs hvs hrl.one hone).mono ?_
    rintro e w' ⟨rfl,rfl⟩
    have hs1:=lay_size (cur:=cur) (o:=(i+1)*9) (vs:=(cur.toList.drop (i*9)).take ((l.length-i)*9)) (by rw[hml,hcs];omega)
    refine jM hE hpL hlen hz' (X:=lay (lay cur ((i+1)*9) ((cur.toList.drop (i*9)).take ((l.length-i)*9))) (i*9) (vcur.toList.take 9)) ?_ (setRow_heap _ b _ _ _ _ (setRow_heap w.drew b cur _ _ _ hb)) ?_ hroom hcm h2 h3 (.inl hO) (fun q hq hqb=>?_) ?_ rfl rfl rfl
    ·rw[eZ,<-et,<-ep,layA (by rw[et,hcs];omega)]
     exact hX
    ·rw[lay_size (by rw[hvl,hs1,hcs];omega),hs1,hcs,eZ]
    ·rw[setRow_other _ b q _ hqb,setRow_other _ b q _ hqb];rfl
    ·rw[size_setRow,size_setRow];exact Nat.le_refl _
   ·have hin':i=l.length:=by omega
    subst hin'
    refine(eJ1 b l.length c vb vc cur vcur w hroom hc63 hb hv hcs hvs hone).mono ?_
    rintro e w' ⟨rfl,rfl⟩
    refine jM hE hpL hlen hz' (X:=lay cur (l.length*9) (vcur.toList.take 9)) ?_ (setRow_heap w b cur _ _ _ hb) ?_ hroom hcm h2 h3 (.inl hO) (fun q hq hqb=>?_) ?_ rfl rfl rfl
    ·rw[eZ]
     have e0:(cur.toList.drop (l.length*9)).take ((l.length-l.length)*9)=[] :=List.length_eq_zero_iff.1 (by rw[hml];omega)
     rw[e0,List.append_nil]at hX
     rw[show(l.length+1)*9=l.length*9+(vcur.toList.take 9).length by rw[hvl];omega,layC (by rw[hvl,hcs];omega)]
     exact hX
    ·rw[lay_size (by rw[hvl,hcs];omega),hcs,eZ]
    ·rw[setRow_other _ b q _ hqb]
    ·rw[size_setRow];exact Nat.le_refl _
  ·have hroom':c<l.length+1:=by omega
   by_cases hin:i<l.length
   ·refine(dT2 b l.length c i vb vc cur vcur w hin hlc hroom' hl hb hv hcs hvs hrl.one hone).mono ?_
    rintro e w' ⟨c',R,rfl,hc1,hc2,hRs,hRt,hN,hO',hsz,q1,q2,q3⟩
    refine jM hE hpL hlen hz' ?_ hN ?_ hc1 hc2 h2 h3 (.inr (Nat.le_refl _)) (fun q hq _=>hO' q hq) (by omega) q1 q2 q3
    ·rw[eZ,<-et,<-ep,layB (by rw[et,hRs];omega),hRt]
     exact hX
    ·rw[lay_size (by rw[hml,lay_size (by rw[hvl,hRs];omega),hRs];omega),lay_size (by rw[hvl,hRs];omega),hRs,eZ]
   ·have hin':i=l.length:=by omega
    subst hin'
    refine(bU5 (some ⟨b,0,none⟩) l.length c vb vc (cur.toList.take (l.length*9)) vcur w hlc hroom' hl (fun h=>by cases h) (fun a ha j v hj=>?_) (by rw[List.length_take,hcur0];omega) hv hvs).mono ?_
    ·cases ha
     rw[Addr.add_lit]
     rw[List.getElem?_take]at hj
     split at hj
     ·rw[Array.getElem?_toList]at hj
      simp only[World.cell?,hb]
      simpa using hj
     ·cases hj
    rintro e w' ⟨c',z,rfl,hc1,hc2,hzz,rfl⟩
    have hcl:(cur.toList.take (l.length*9)).length=l.length*9:=by rw[List.length_take,hcur0];omega
    refine jM hE hpL hlen hz' ?_ Array.getElem?_push_size ?_ hc1 hc2 h2 h3 (.inr (Nat.le_refl _)) (fun q hq _=>?_) (by show _<=(w.heap.push _).size;rw[Array.size_push];omega) rfl rfl rfl
    ·rw[eZ]
     have e0:(cur.toList.drop (l.length*9)).take ((l.length-l.length)*9)=[] :=List.length_eq_zero_iff.1 (by rw[hml];omega)
     rw[e0,List.append_nil]at hX
     have e2:(((cur.toList.take (l.length*9)).toArray++(vcur.toList.take 9).toArray++z).toList.take ((l.length+1)*9))=cur.toList.take (l.length*9)++vcur.toList.take 9:=by
      simp only[Array.toList_append]
      exact uI (by rw[hcl,hvl];omega)
     rw[e2]
     exact hX
    ·rw[eZ]
     simp only[Array.size_append,List.size_toArray,hvl,hzz,hcl]
     omega
    ·show(w.heap.push _)[q]? =_
     rw[Array.getElem?_push_lt hq,Array.getElem?_eq_getElem hq]
end Go.Proofs.Led
