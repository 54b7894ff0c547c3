/-
  An event with an error changes nothing; a cut whose scrap is changed is refused.
-/
import Derived.Test.YtkhhdojgbkophaaGreatB41
import Derived.Test.YtkhhdojgbkophaaGreatB42
set_option linter.unusedVariables false
set_option linter.unusedSimpArgs false
namespace Go.Proofs.Led
open Go Go.Proofs Go.Ab
set_option maxRecDepth 100000
set_option maxHeartbeats 8000000
theorem aY4(l:List Event)(mo:Int)(hl:Len6 l)(hb:∀e∈l,bI1 e):Sp 5 [.sl (l.map aS),I mo] (.lit (.bool true)):=by
 refine zsp Tryz.func5 ?_
 have hm:(l.map aS).length=l.length:=by simp
 have g0:=zB
 have g1:=aS2 l 16 hl hb
 by_cases hf:fewL l 16/\mo≠0
 rotate_left
 ·repeat' ((conv=>whnf);first|(exfalso;exact hf ⟨by assumption,by assumption⟩)|refine zc g0 ?_|refine zc g1 ?_|refine zg ?_|refine zn ?_|refine zd (fun hd=>?_) (fun hd=>?_)|refine ze (fun heq=>?_) (fun heq=>?_)|refine zr ?_)
  all_goals conv=>whnf
  all_goals first|exact aG rfl|exact aK rfl|exact aP rfl|exact zt|exact zu
 obtain⟨⟨hf1,hf2⟩,hmo⟩:=hf
 have hfs:∀e∈l,iY e/\e.cuts.length<=12/\e.rests.length<=8/\more e<=21:=fun e he=>aQ4 (hb e he) (hf1 e he)
 have hml:=bH2 (fun e he=>(hfs e he).2.2.2)
 have hf':fewL l 16:=⟨hf1,hf2⟩
 repeat' ((conv=>whnf);first|(exfalso;omega)|(exfalso;contradiction)|refine zc g0 ?_|refine zc g1 ?_|refine zg ?_|refine zn ?_|refine zd (fun hd=>?_) (fun hd=>?_)|refine ze (fun heq=>?_) (fun heq=>?_))
 all_goals conv=>whnf
 refine oU (A:=aJ) (B:=List Event) (C:=List Event) (fun s D R=>mkSt [(0, .sl (l.map aS)),(1,I mo),(5, .box 5 0),(6,I D.length)] [(5,invC s)] []) (fun s D R=>l=D++R/\∃n,Good s n/\n+moreL R<=1000) (fun s D R=>R.length) inv0 [] l ?_ ⟨rfl,0,cN2,by omega⟩ (fun s D R hp=>?_)
 ·show Le T _ (mkSt [(0, .sl (l.map aS)),(1,I mo),(5, .box 5 0),(6,I 0)] [(5,invC inv0)] [])
  exact zj
 obtain⟨hp,n,hn,hnl⟩:=hp
 have hn6:n<=1000000:=by omega
 cases R with
 |nil=>
  have hlen:l.length=D.length:=by rw[hp];simp
  clear hp
  repeat' ((conv=>whnf);first|(exfalso;omega)|refine zg ?_|refine zl (fun hlt=>?_) (fun hlt=>?_)|refine zr ?_)
  all_goals conv=>whnf
  all_goals first|exact aG rfl|exact aK rfl|exact aP rfl|exact zt|exact zu
 |cons e R=>
  have hlen:=aO hp
  have em:moreL (e::R)=more e+moreL R:=by unfold moreL;simp
  obtain⟨z1,z2,z3,z4⟩:=hfs e (by rw[hp];simp)
  have k1:=bB8 e (by omega) (by omega)
  have k2:=(kG hn.ok (e:=e) (by omega) z1).1
  have k3:=good_step (e:=e) hn
  have k4:=aA5 s (Nat.le_trans hn.ok.ls hn6) (Nat.le_trans hn.ok.lp hn6)
  have k5:=bR8 s s (by have:=hn.ok.ls;show _<=_;omega) (by have:=hn.ok.lp;show _<=_;omega) (by have:=hn.ok.lu;show _<=_;omega) (fun x hx=>bU0 (hn.ok.sz x hx))
  rw[DB_t rfl]at k5
  have k6:=dO9 ok0 ok0 (Nat.zero_le _) (Nat.zero_le _)
  rw[DB_t rfl]at k6
  have hlD:((D++[e]).length:Int)=(D.length:Int)+1:=by simp
  have kk:∀s',Good s' (n+more e)->∃n',Good s' n'/\n'+moreL R<=1000:=fun s' h=>⟨_,h,by omega⟩
  have kk0:∃n',Good s n'/\n'+moreL R<=1000:=⟨n,hn,by omega⟩
  by_cases c:(appR s e).2=0
  rotate_left
  ·generalize appR s e=a at*
   repeat' ((conv=>whnf);first|(exfalso;omega)|refine aB (l:=l) (by omega) ?_|refine aF (l:=l) (A:=D) (x:=e) (B:=R) hp (by omega) ?_|refine zc k1 ?_|refine zc k2 ?_|refine zc k4 ?_|refine zc k5 ?_|refine zg ?_|refine zi ?_|refine za ?_|refine zn ?_|refine zl (fun hlt=>?_) (fun hlt=>?_)|refine ze (fun heq=>?_) (fun heq=>?_))
   all_goals conv=>whnf
   refine⟨(s,D++[e],R),?_,⟨by rw[hp];simp,kk0⟩,by simp⟩
   simp only[List.length_append,List.length_singleton]
   exact zj
  have hrf:∀c',c'≠e.scrap->e.kind=5->Sp 14 [invV s,aS (kV e c')] (.tup [invV inv0,I 29])\/Sp 14 [invV s,aS (kV e c')] (.tup [invV inv0,I 1]):=fun c' hc' hk=>by
   have q:=(kG hn.ok (e:=kV e c') (by show n+more e<=1000000;omega) ⟨z1.sh,z1.br,z1.ct,z1.rs⟩).1
   rcases refused hn.ok c hk hc' with h|h
   ·rw[h]at q;exact .inl q
   ·rw[h]at q;exact .inr q
  have hG:=k3 c
  rw[c]at k2
  by_cases hk:e.kind=5
  ·have hd:maxI (-1000) (minI mo 1000)≠0/\-1000<=maxI (-1000) (minI mo 1000)/\maxI (-1000) (minI mo 1000)<=1000:=by
    rw[mG,lH];omega
   have k7:=hrf (W (e.scrap+maxI (-1000) (minI mo 1000))) (cP2 hd) hk
   clear hd hrf k3 c
   generalize appR s e=a at*
   rcases k7 with k7|k7
   ·repeat' ((conv=>whnf);first|(exfalso;omega)|refine aB (l:=l) (by omega) ?_|refine aF (l:=l) (A:=D) (x:=e) (B:=R) hp (by omega) ?_|refine zc k1 ?_|refine zc k2 ?_|refine zc k4 ?_|refine zc k5 ?_|refine zc k7 ?_|refine zc k6 ?_|refine zg ?_|refine zi ?_|refine za ?_|refine zw ?_|refine zn ?_|refine zl (fun hlt=>?_) (fun hlt=>?_)|refine ze (fun heq=>?_) (fun heq=>?_))
    all_goals conv=>whnf
    refine⟨(a.1,D++[e],R),?_,⟨by rw[hp];simp,kk _ hG⟩,by simp⟩
    simp only[List.length_append,List.length_singleton]
    exact zj
   ·repeat' ((conv=>whnf);first|(exfalso;omega)|refine aB (l:=l) (by omega) ?_|refine aF (l:=l) (A:=D) (x:=e) (B:=R) hp (by omega) ?_|refine zc k1 ?_|refine zc k2 ?_|refine zc k4 ?_|refine zc k5 ?_|refine zc k7 ?_|refine zc k6 ?_|refine zg ?_|refine zi ?_|refine za ?_|refine zw ?_|refine zn ?_|refine zl (fun hlt=>?_) (fun hlt=>?_)|refine ze (fun heq=>?_) (fun heq=>?_))
    all_goals conv=>whnf
    refine⟨(a.1,D++[e],R),?_,⟨by rw[hp];simp,kk _ hG⟩,by simp⟩
    simp only[List.length_append,List.length_singleton]
    exact zj
  ·clear hrf k3 c
   generalize appR s e=a at*
   repeat' ((conv=>whnf);first|(exfalso;omega)|refine aB (l:=l) (by omega) ?_|refine aF (l:=l) (A:=D) (x:=e) (B:=R) hp (by omega) ?_|refine zc k1 ?_|refine zc k2 ?_|refine zc k4 ?_|refine zc k5 ?_|refine zg ?_|refine zi ?_|refine za ?_|refine zn ?_|refine zl (fun hlt=>?_) (fun hlt=>?_)|refine ze (fun heq=>?_) (fun heq=>?_))
   all_goals conv=>whnf
   refine⟨(a.1,D++[e],R),?_,⟨by rw[hp];simp,kk _ hG⟩,by simp⟩
   simp only[List.length_append,List.length_singleton]
   exact zj
end Go.Proofs.Led
