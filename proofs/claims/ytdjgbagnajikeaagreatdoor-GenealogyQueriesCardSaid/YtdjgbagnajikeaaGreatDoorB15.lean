/-
  The genealogy's Right.
-/
import Derived.Test.YtdjgbagnajikeaaGreatDoorB14
set_option linter.unusedVariables false
set_option linter.unusedSimpArgs false
set_option maxRecDepth 100000
set_option maxHeartbeats 8000000
noncomputable section
namespace Go.Proofs.Led
open Go Go.Proofs Go.Ab
def putsV(ps:List (Int×Int)):List V:=ps.map fun p=>V.tup [.lit (.int .i64 p.1),I p.2]
def look:List (Int×Int)->Int->Int
 | [],_=>0
 |p::ps,n=>if p.1=n then p.2 else look ps n
theorem assoc_look(n:Int):∀ps:List (Int×Int),(jG (.int .i64 n) (putsV ps)).getD (.lit (.int .i64 0))= .lit (.int .i64 (look ps n))
 | [] =>rfl
 |p::ps=>by
  have ih:=assoc_look n ps;unfold look;show(jG (.int .i64 n) (.tup [.lit (.int .i64 p.1),I p.2] ::putsV ps)).getD _=_;by_cases h:p.1=n
  ·rw[if_pos h,h,assoc_hit]
   rfl
  ·rw[if_neg h,assoc_miss (fun e=>h Gf),ih]
def goneLeft(ps:List (Int×Int))(x:Node):Prop:=x.gone=true/\look ps x.id≠0
theorem rightF_spec(ps:List (Int×Int))(x:Node):Sp 51 [nodeV x, .fp [V.mapV (.int .i64 0) (putsV ps)]] (DB (goneLeft ps x)):=by
 refine zsp Tryz.func51 ?_;have h1:=assoc_look x.id ps;have hr:goneLeft ps x↔x.gone=true/\look ps x.id≠0:=Iff.rfl
 generalize goneLeft ps x=P at*;generalize look ps x.id=v at*;generalize hps:putsV ps=es at*;obtain⟨i,k,p,g,h,t,z,o,c⟩:=x;cases o
 ·repeat' ((conv=>whnf);first|(exfalso;contradiction)|refine zS ?_|refine zm (fun x hx=>?_)|refine zT ?_ ?_<;>intro _|fail)
  all_goals conv=>whnf
  all_goals exact aA (aC fun q=>absurd (hr.1 q).1 (fun q=>FZ))
 ·repeat' ((conv=>whnf);first|(exfalso;contradiction)|refine eV6 h1 ?_|refine zS ?_|refine zm (fun x hx=>?_)|refine zT ?_ ?_<;>intro _|fail)
  all_goals conv=>whnf
  all_goals exact aA (aF6 (dY0.trans ⟨fun q=>hr.2 ⟨rfl,q⟩,fun q=>(hr.1 q).2⟩))
theorem ndI_vc{g:FuncId}{c:List V}{Q:Node->Prop}(hg:∀m,Sp g (nodeV m:: [.fp c]) (DB (Q m)))(l:List Node)(hl:l.length<=1000000):fnVC T Tryz.prog Tryz.f105 [.sl (l.map nodeV), .fn g [.fp c]] (I (fstI Q l)):=by
 have hll:(l.map nodeV).length=l.length:=Ae
 repeat' ((conv=>whnf);first|refine zS ?_|refine zd (fun hd=>?_) (fun hd=>?_)|refine zl (fun hlt=>?_) (fun hlt=>?_)|refine zk (fun hle=>?_) (fun hle=>?_)|refine ze (fun heq=>?_) (fun heq=>?_)|refine zm (fun x hx=>?_)|refine zb (fun hbb=>?_) (fun hbb=>?_))
 refine aU (A:=List Node) (B:=List Node) (fun D R=>mkSt [(0, .sl (l.map nodeV)),(1, .fn g [.fp c]),(7,I l.length),(8,I D.length)] [] [])
  (fun D R=>l=D++R/\∀m∈D,¬Q m) (fun D R=>R.length) [] l ?_ ⟨rfl,Ae⟩ (fun D R hp=>?_)
 ·exact zj
 ·obtain⟨h1,h2⟩:=hp
  have hlen:l.length=D.length+R.length:=AY;have hD:∀y∈D,(!decB (Q y))=true:=fun y hy=>BF
  cases R with
  |nil=>
   have e:l=D:=AY;simp at hlen
   repeat' ((conv=>whnf);first|(exfalso;omega)|refine zS ?_|refine zd (fun hd=>?_) (fun hd=>?_)|refine zl (fun hlt=>?_) (fun hlt=>?_)|refine zk (fun hle=>?_) (fun hle=>?_)|refine ze (fun heq=>?_) (fun heq=>?_)|refine zm (fun x hx=>?_)|refine zb (fun hbb=>?_) (fun hbb=>?_))
   exact O6
  |cons x R=>
   rw[List.length_cons]at hlen
   repeat' ((conv=>whnf);first|(exfalso;omega)|refine zc (hg x) ?_|refine zS ?_|refine zd (fun hd=>?_) (fun hd=>?_)|refine zl (fun hlt=>?_) (fun hlt=>?_)|refine zk (fun hle=>?_) (fun hle=>?_)|refine ze (fun heq=>?_) (fun heq=>?_)|refine zm (fun x hx=>?_)|refine zb (fun hbb=>?_) (fun hbb=>?_))
   ·exact Hr
   ·exact GR
theorem ndI_spec{g:FuncId}{c:List V}{Q:Node->Prop}(hg:∀m,Sp g (nodeV m:: [.fp c]) (DB (Q m)))(l:List Node)(hl:l.length<=1000000):Sp 105 [.sl (l.map nodeV), .fn g [.fp c]] (I (fstI Q l)):=zsp Tryz.func105 (ndI_vc hg l hl)
theorem ndC_vc{g:FuncId}{c:List V}{Q:Node->Prop}(hg:∀m,Sp g (nodeV m:: [.fp c]) (DB (Q m)))(l:List Node)(hl:l.length<=1000000):fnVC T Tryz.prog Tryz.f50 [.sl (l.map nodeV), .fn g [.fp c]] (DB (∃m∈l,Q m)):=by
 repeat' ((conv=>whnf);first|refine zc (ndI_spec hg l hl) ?_|refine zS ?_|refine zd (fun hd=>?_) (fun hd=>?_)|refine zl (fun hlt=>?_) (fun hlt=>?_)|refine zk (fun hle=>?_) (fun hle=>?_)|refine ze (fun heq=>?_) (fun heq=>?_)|refine zm (fun x hx=>?_)|refine zb (fun hbb=>?_) (fun hbb=>?_))
 exact KR
theorem ndC_spec{g:FuncId}{c:List V}{Q:Node->Prop}(hg:∀m,Sp g (nodeV m:: [.fp c]) (DB (Q m)))(l:List Node)(hl:l.length<=1000000):Sp 50 [.sl (l.map nodeV), .fn g [.fp c]] (DB (∃m∈l,Q m)):=zsp Tryz.func50 (ndC_vc hg l hl)
def baseN(f:List Node)(n:Int):Int:=match getN f n with
 |some x=>x.size-x.scrap
 |none=>0
theorem base_some{f:List Node}{n:Int}{x:Node}(h:getN f n=some x):baseN f n=x.size-x.scrap:=by unfold baseN;rw[h]
theorem base_none{f:List Node}{n:Int}(h:∀x∈f,x.id≠n):baseN f n=0:=by unfold baseN;rw[getN_none.2 h]
theorem getN_snoc{D:List Node}{x:Node}{n:Int}:getN (D++[x]) n=(getN D n).or (if x.id=n then some x else none):=by
 unfold getN;rw[List.find?_append];congr 1;simp only[List.find?_cons,List.find?_nil];by_cases h:x.id=n<;>simp[h]
theorem base_snoc{D:List Node}{x:Node}(h:∀y∈D,y.id≠x.id)(n:Int):baseN (D++[x]) n=if x.id=n then x.size-x.scrap else baseN D n:=by
 unfold baseN;rw[getN_snoc];by_cases c:x.id=n
 ·rw[if_pos c,if_pos c,getN_none.2 (fun y hy e=>h y hy Aa)]
  rfl
 ·rw[if_neg c,if_neg c]
  cases getN D n<;>rfl
theorem ksum_snoc(D:List Node)(x:Node)(n:Int):ksum (D++[x]) n=ksum D n+if x.parent=n then x.size else 0:=by unfold ksum;simp
theorem ksum_app(D R:List Node)(n:Int):ksum (D++R) n=ksum D n+ksum R n:=by unfold ksum;rw[List.map_append,List.sum_append]
theorem ksum_pos{R:List Node}(h:∀x∈R,1<=x.size)(n:Int):0<=ksum R n:=by
 unfold ksum
 induction R with
 |nil=>exact Int.le_refl 0
 |cons x R ih=>
  have h1:=h x Ae;have h2:=ih (fun y hy=>h y FY)
  rw[List.map_cons,List.sum_cons];split<;>omega
theorem sort_snoc{D:List Node}{x y:Node}{E:List Node}(hD:SortN D)(hE:D=E++[y])(h:y.id<x.id):SortN (D++[x]):=by
 show((D++[x]).map Node.id).Pairwise _;rw[List.map_append,List.pairwise_append];refine⟨hD,List.pairwise_singleton _ _,fun a ha b hb=>?_⟩;obtain⟨z,hz,rfl⟩:=List.mem_map.1 ha;have hb':b=x.id:=CO
 rw[hb'];subst hE;rcases List.mem_append.1 hz with hz|hz
 ·have hD':((E++[y]).map Node.id).Pairwise (·<·):=hD
  rw[List.map_append,List.pairwise_append]at hD';have:=hD'.2.2 z.id (List.mem_map_of_mem hz) y.id Ae;omega
 ·rw[List.mem_singleton.1 hz];exact h
end Go.Proofs.Led
