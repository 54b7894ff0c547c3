/-
  Names and bars of the reference.
-/
import Derived.Test.YtkhhdojgbkophaaGreatB26
import Derived.Test.YtkhhdojgbkophaaGreatB40
import Derived.Test.YtkhhdojgbkophaaGreatA16
set_option linter.unusedVariables false
set_option linter.unusedSimpArgs false
namespace Go.Proofs.Led
open Go Go.Proofs Go.Ab
set_option maxRecDepth 100000
set_option maxHeartbeats 4000000
theorem cZ1(c:Int):fnVC T Tryz.prog Tryz.f153 [U c] (.lit (.bool (decB (jA c)))):=by
 repeat' ((conv=>whnf);first|refine zg ?_|refine zi ?_|refine za ?_|refine zw ?_|refine zy ?_|refine zo ?_|refine zn ?_|refine zm (fun x hx=>?_)|refine zv ?_|refine zz (fun _=>?_) fun _=>?_|refine zb (fun _=>?_) fun _=>?_|refine zr ?_|refine zq ?_)
 all_goals conv=>whnf
 all_goals refine aA ?_
 all_goals first
  |exact fE (by unfold jA;omega)
  |(refine le_dec ?_;unfold jA;omega)
  |exact aC (by unfold jA;omega)
theorem aO8(c:Int):Sp 153 [U c] (.lit (.bool (decB (jA c)))):=zsp Tryz.func153 (cZ1 c)
theorem dP4(c:Int):fnVC T Tryz.prog Tryz.f207 [U c] (.lit (.bool (decB (isDigit c)))):=by
 repeat' ((conv=>whnf);first|refine zg ?_|refine zi ?_|refine za ?_|refine zw ?_|refine zy ?_|refine zo ?_|refine zn ?_|refine zm (fun x hx=>?_)|refine zv ?_|refine zz (fun _=>?_) fun _=>?_|refine zb (fun _=>?_) fun _=>?_|refine zr ?_|refine zq ?_)
 all_goals conv=>whnf
 all_goals refine aA ?_
 all_goals first
  |(refine le_dec ?_;unfold isDigit;omega)
  |exact aC (by unfold isDigit;omega)
theorem cH4(c:Int):Sp 207 [U c] (.lit (.bool (decB (isDigit c)))):=zsp Tryz.func207 (dP4 c)
theorem dS9(s:ByteArray)(hs:s.size<=1000000000):fnVC T Tryz.prog Tryz.f154 [S s,I 0] (I (whS fG s 0)):=by
 repeat' ((conv=>whnf);first|refine zg ?_|refine zi ?_|refine za ?_|refine zw ?_|refine zy ?_|refine zo ?_|refine zn ?_|refine zd (fun hd=>?_) (fun hd=>?_)|refine zl (fun hlt=>?_) (fun hlt=>?_)|refine zk (fun hle=>?_) (fun hle=>?_)|refine ze (fun heq=>?_) (fun heq=>?_)|refine zm (fun x hx=>?_)|refine zv ?_|refine zb (fun hbb=>?_) (fun hbb=>?_)|refine zr ?_|refine zq ?_)
 refine lD (A:=Nat) (fun k=>mkSt [(0,S s),(1,I 0),(5,I k)] [] []) (fun k=>k<=s.size/\whS fG s k=whS fG s 0) (fun k=>s.size-k) 0 ?_ ⟨Nat.zero_le _,rfl⟩ (fun k hk=>?_)
 ·exact zj
 ·obtain⟨hkz,hk⟩:=hk
  rcases Nat.lt_or_ge k s.size with hlt|hge
  ·obtain⟨f,hf⟩:∃f,s.size-k=f+1:=⟨s.size-k-1,by omega⟩
   have hks:whS fG s k=wh (fun j=>decB (fG (byteAt s j))) (f+1) k:=by unfold whS;rw[hf]
   have hix:((0:Int)+k).toNat=k:=by omega
   have hget:byteAt s ((0:Int)+k).toNat=byteAt s k:=by rw[hix]
   have cont:fG (byteAt s k)->whS fG s (k+1)=whS fG s 0:=fun h=>by
    rw[<-hk,hks,dG8 (dH.2 h)]
    unfold whS
    rw[show s.size- (k+1)=f by omega]
   have stop:¬fG (byteAt s k)->(k:Int)=whS fG s 0:=fun h=>by
    rw[<-hk,hks,dE4 (dW.2 h)]
   repeat' ((conv=>whnf);first|(exfalso;omega)|refine zc (aO8 (byteAt s ((0:Int)+k).toNat)) ?_|refine zc (cH4 (byteAt s ((0:Int)+k).toNat)) ?_|refine zg ?_|refine zi ?_|refine za ?_|refine zw ?_|refine zy ?_|refine zo ?_|refine zn ?_|refine zd (fun hd=>?_) (fun hd=>?_)|refine zl (fun hlt=>?_) (fun hlt=>?_)|refine zk (fun hle=>?_) (fun hle=>?_)|refine ze (fun heq=>?_) (fun heq=>?_)|refine zm (fun x hx=>?_)|refine zv ?_|refine zb (fun hbb=>?_) (fun hbb=>?_)|refine zr ?_|refine zq ?_)
   all_goals rw[hget]at*
   ·conv=>whnf
    refine⟨k+1,?_,⟨by omega,cont (.inl hd)⟩,by omega⟩
    exact zj
   ·conv=>whnf
    refine⟨k+1,?_,⟨by omega,cont (.inr (.inl hd))⟩,by omega⟩
    exact zj
   ·conv=>whnf
    refine⟨k+1,?_,⟨by omega,cont (.inr (.inr heq))⟩,by omega⟩
    exact zj
   ·conv=>whnf
    refine aG (stop ?_)
    rename_i h1
    rintro(h|h|h)
    ·exact h1 h
    ·exact hd h
    ·exact heq h
  ·have hks:whS fG s k=k:=by unfold whS;rw[show s.size-k=0 by omega];rfl
   repeat' ((conv=>whnf);first|(exfalso;omega)|refine zg ?_|refine zi ?_|refine za ?_|refine zw ?_|refine zy ?_|refine zo ?_|refine zn ?_|refine zd (fun hd=>?_) (fun hd=>?_)|refine zl (fun hlt=>?_) (fun hlt=>?_)|refine zk (fun hle=>?_) (fun hle=>?_)|refine ze (fun heq=>?_) (fun heq=>?_)|refine zm (fun x hx=>?_)|refine zv ?_|refine zb (fun hbb=>?_) (fun hbb=>?_)|refine zr ?_|refine zq ?_)
   conv=>whnf
   refine aG ?_
   rw[<-hk,hks]
theorem cO5(s:ByteArray)(hs:s.size<=1000000000):Sp 154 [S s,I 0] (I (whS fG s 0)):=zsp Tryz.func154 (dS9 s hs)
theorem dX9(s:ByteArray):fnVC T Tryz.prog Tryz.f78 [S s] (.lit (.bool (decB (iM s)))):=by
 rcases Nat.lt_or_ge 16 s.size with hbig|hsm
 ·repeat' ((conv=>whnf);first|(exfalso;omega)|refine zg ?_|refine zi ?_|refine za ?_|refine zw ?_|refine zy ?_|refine zo ?_|refine zn ?_|refine zd (fun hd=>?_) (fun hd=>?_)|refine zl (fun hlt=>?_) (fun hlt=>?_)|refine zk (fun hle=>?_) (fun hle=>?_)|refine ze (fun heq=>?_) (fun heq=>?_)|refine zm (fun x hx=>?_)|refine zv ?_|refine zb (fun hbb=>?_) (fun hbb=>?_)|refine zr ?_|refine zq ?_)
  all_goals conv=>whnf
  all_goals refine aA ?_
  all_goals exact aC (fun h=>by have:=h.2.1;omega)
 ·repeat' ((conv=>whnf);first|refine cK2 ⟨by omega,by omega⟩ ?_|refine zc (aO8 (byteAt s 0)) ?_|refine zc (cO5 s (by omega)) ?_|(exfalso;omega)|refine zg ?_|refine zi ?_|refine za ?_|refine zw ?_|refine zy ?_|refine zo ?_|refine zn ?_|refine zd (fun hd=>?_) (fun hd=>?_)|refine zl (fun hlt=>?_) (fun hlt=>?_)|refine zk (fun hle=>?_) (fun hle=>?_)|refine ze (fun heq=>?_) (fun heq=>?_)|refine zm (fun x hx=>?_)|refine zv ?_|refine zb (fun hbb=>?_) (fun hbb=>?_)|refine zr ?_|refine zq ?_)
  ·conv=>whnf
   refine aA (sK ?_)
   have hw:=cV4 (fun j=>decB (fG (byteAt s j))) s.size 0
   have hs0:whS fG s 0=wh (fun j=>decB (fG (byteAt s j))) s.size 0:=rfl
   rw[<-hs0,Nat.zero_add]at hw
   have e:(((whS fG s 0:Nat):Int)=(s.size:Int))↔whS fG s 0=s.size:=by omega
   show(((whS fG s 0:Nat):Int)=(s.size:Int))↔_
   rw[e,hw]
   constructor
   ·intro h
    exact⟨by omega,hsm,hd,fun i hi=>dH.1 (h i (Nat.zero_le _) (by omega))⟩
   ·intro h j _ hj
    exact dH.2 (h.2.2.2 j (by omega))
  ·conv=>whnf
   exact aA (aC (fun h=>hd h.2.2.1))
  ·conv=>whnf
   exact aA (aC (fun h=>by have:=h.1;omega))
theorem bD8(s:ByteArray):Sp 78 [S s] (.lit (.bool (decB (iM s)))):=zsp Tryz.func78 (dX9 s)
theorem rhead_spec(id:Int)(g h:ByteArray):Sp 84 [I id,S g,S h] (DB (kZ id g h)):=by
 refine zsp Tryz.func84 ?_
 have h1:=bD8 g
 have h2:=bD8 h
 have hr:kZ id g h↔1<=id/\id<=1000000/\iM g/\iM h:=Iff.rfl
 generalize kZ id g h=P at*
 generalize iM g=p1 at*
 generalize iM h=p2 at*
 repeat' ((conv=>whnf);first|refine zc h1 ?_|refine zc h2 ?_|refine zg ?_|refine zi ?_|refine za ?_|refine zw ?_|refine zy ?_|refine zo ?_|refine zn ?_|refine zm (fun x hx=>?_)|refine zv ?_|refine zz (fun _=>?_) fun _=>?_|refine zb (fun _=>?_) fun _=>?_|refine zr ?_|refine zq ?_)
 all_goals conv=>whnf
 all_goals first
  |exact aA (fQ ⟨fun h=>hr.2 ⟨by omega,by omega,by assumption,h⟩,fun h=>(hr.1 h).2.2.2⟩)
  |exact aA (aC (fun h=>by have:=hr.1 h;omega))
  |exact aA (aC (fun h=>absurd (hr.1 h).2.2.1 (by assumption)))
  |exact aA (le_dec ⟨fun h=>by omega,fun h=>by have:=hr.1 h;omega⟩)
theorem rvalidBar_spec(b:Bar)(hl:b.defects.length<=9223372036854775807):Sp 27 [barV b] (DB (fM b)):=by
 refine zsp Tryz.func27 ?_
 have h1:=rhead_spec b.id b.grade b.heat
 have hm:(b.defects.map ivV).length=b.defects.length:=by simp
 have hr:fM b↔kZ b.id b.grade b.heat/\1<=b.length/\b.length<=2000/\b.defects.length<=6/\sU b.length 0 b.defects:=Iff.rfl
 generalize fM b=P at*
 generalize kZ b.id b.grade b.heat=p1 at*
 repeat' ((conv=>whnf);first|(exfalso;omega)|refine zc h1 ?_|refine zg ?_|refine zi ?_|refine za ?_|refine zw ?_|refine zy ?_|refine zo ?_|refine zn ?_|refine zm (fun x hx=>?_)|refine zv ?_|refine zz (fun _=>?_) fun _=>?_|refine zb (fun _=>?_) fun _=>?_|refine zr ?_|refine zq ?_)
 all_goals conv=>whnf
 all_goals first
  |exact aA (aC (fun h=>by have:=hr.1 h;omega))
  |exact aA (aC (fun h=>absurd (hr.1 h).1 (by assumption)))
  |skip
 have hP:P↔sU b.length 0 b.defects:=⟨fun h=>(hr.1 h).2.2.2.2,fun h=>hr.2 ⟨by assumption,by omega,by omega,by omega,h⟩⟩
 clear hr
 refine oU (A:=Int) (B:=List Iv) (C:=List Iv) (fun e D R=>mkSt [(1, .box 1 0),(3,I e),(4,I D.length)] [(1,barC b)] []) (fun e D R=>b.defects=D++R/\(P↔sU b.length e R)) (fun e D R=>R.length) 0 [] b.defects ?_ ⟨rfl,hP⟩ (fun e D R hp=>?_)
 ·exact zj
 obtain⟨hp,hP⟩:=hp
 cases R with
 |nil=>
  have hlen:b.defects.length=D.length:=by rw[hp];simp
  clear hp
  repeat' ((conv=>whnf);first|(exfalso;omega)|refine zg ?_|refine zi ?_|refine za ?_|refine zw ?_|refine zy ?_|refine zo ?_|refine zn ?_|refine zm (fun x hx=>?_)|refine zv ?_|refine zz (fun _=>?_) fun _=>?_|refine zb (fun _=>?_) fun _=>?_|refine zr ?_|refine zq ?_)
  all_goals conv=>whnf
  exact aA (fE (hP.2 trivial))
 |cons d R=>
  have hlen:=aO hp
  have hP2:P↔e<=d.1/\d.1<d.2/\d.2<=b.length/\sU b.length d.2 R:=hP
  repeat' ((conv=>whnf);first|(exfalso;omega)|refine aB (l:=b.defects) (by omega) ?_|refine aF (l:=b.defects) (A:=D) (x:=d) (B:=R) hp (by omega) ?_|refine zg ?_|refine zi ?_|refine za ?_|refine zw ?_|refine zy ?_|refine zo ?_|refine zn ?_|refine zm (fun x hx=>?_)|refine zv ?_|refine zz (fun _=>?_) fun _=>?_|refine zb (fun _=>?_) fun _=>?_|refine zr ?_|refine zq ?_)
  all_goals conv=>whnf
  all_goals first
   |exact aA (aC (fun h=>by have:=hP2.1 h;omega))
   |skip
  refine⟨(d.2,D++[d],R),?_,⟨by rw[hp];simp,⟨fun h=>(hP2.1 h).2.2.2,fun h=>hP2.2 ⟨by omega,by omega,by omega,h⟩⟩⟩,by simp⟩
  simp only[List.length_append,List.length_singleton]
  exact zj
def wV(n:Int):Int:=1+n% 40
def uT(q:List Made×Int)(i:Nat)(n:Int):List Made×Int:=if wV n<=q.2 then(q.1++[⟨1001+i,chB 97,wV n⟩],q.2-wV n)else q
def cbL:List Int->Nat->List Made×Int->List Made×Int
 | [],_,q=>q
 |n::l,i,q=>cbL l (i+1) (uT q i n)
theorem aA9:∀(D:List Int) (n:Int) (i:Nat) (q:List Made×Int),cbL (D++[n]) i q=uT (cbL D i q) (i+D.length) n
 | [],n,i,q=>rfl
 |d::D,n,i,q=>by
  show cbL (D++[n]) (i+1) (uT q i d)=_
  rw[aA9 D n (i+1)]
  show uT (cbL D (i+1) (uT q i d)) (i+1+D.length) n=uT (cbL D (i+1) (uT q i d)) (i+(D.length+1)) n
  congr 1
  omega
structure CbOk(n:Int)(i:Nat)(q:List Made×Int):Prop where
 left:0<=q.2
 sum:(q.1.map Made.size).sum+q.2=n
 each:∀c∈q.1,1001<=c.id/\c.id<1001+(i:Int)/\c.part=chB 97/\1<=c.size
 up:(q.1.map Made.id).Pairwise (·≠·)
 len:q.1.length<=i
theorem bG0{n:Int}(hn:0<=n):∀(l:List Int),CbOk n l.length (cbL l 0 ([],n)):=by
 intro l
 generalize hk:l.length=k
 induction k generalizing l with
 |zero=>
  rw[List.length_eq_zero_iff.1 hk]
  exact⟨hn,by show(0:Int)+n=n;omega,by simp[cbL],by simp[cbL],by simp[cbL]⟩
 |succ k ih=>
  obtain⟨D,x,rfl⟩:∃D x,l=D++[x] :=⟨l.dropLast,l.getLast (by intro h;rw[h]at hk;simp at hk),(List.dropLast_concat_getLast _).symm⟩
  have hD:D.length=k:=by simp at hk;exact hk
  have h:=ih D hD
  rw[aA9,Nat.zero_add,hD]
  generalize cbL D 0 ([],n)=q at*
  unfold uT
  split
  ·rename_i hle
   have hs:1<=wV x:=by unfold wV;omega
   refine⟨by have:=h.left;show 0<=q.2-wV x;omega,?_,fun c hc=>?_,?_,?_⟩
   ·show((q.1++[(⟨1001+(k:Int),chB 97,wV x⟩:Made)]).map Made.size).sum+(q.2-wV x)=n
    have:=h.sum
    rw[List.map_append,List.sum_append]
    simp only[List.map_cons,List.map_nil,List.sum_cons,List.sum_nil]
    omega
   ·rcases List.mem_append.1 hc with hc|hc
    ·obtain⟨a,b,c1,d⟩:=h.each c hc
     exact⟨a,by omega,c1,d⟩
    ·rw[List.mem_singleton.1 hc]
     exact⟨show(1001:Int)<=1001+(k:Int) by omega,show 1001+(k:Int)<1001+((k+1:Nat):Int) by omega,rfl,hs⟩
   ·show((q.1++[(⟨1001+(k:Int),chB 97,wV x⟩:Made)]).map Made.id).Pairwise _
    rw[List.map_append,List.pairwise_append]
    refine⟨h.up,by simp,fun a ha b hb=>?_⟩
    obtain⟨c,hc,rfl⟩:=List.mem_map.1 ha
    rw[List.map_cons,List.map_nil,List.mem_singleton]at hb
    rw[hb]
    have:=(h.each c hc).2.1
    show c.id≠1001+(k:Int)
    omega
   ·show(q.1++[(⟨1001+(k:Int),chB 97,wV x⟩:Made)]).length<=k+1
    have:=h.len
    rw[List.length_append,List.length_singleton]
    omega
  ·exact⟨h.left,h.sum,fun c hc=>by obtain⟨a,b,c1,d⟩:=h.each c hc;exact⟨a,by omega,c1,d⟩,h.up,by have:=h.len;omega⟩
def nI(len at_:Int):List Rest:=if 0<at_/\at_<len then [⟨1000,bx0,at_,len⟩]else []
def oC(len at_:Int):Int:=if 0<at_/\at_<len then at_ else len
def cbEv(b:Bar)(sizes:List Int)(at_:Int):Event:=xC b.id (cbL sizes 0 ([],oC b.length at_)).1 (nI b.length at_) (cbL sizes 0 ([],oC b.length at_)).2
theorem eC7{b:Bar}{sizes:List Int}{at_:Int}(hb:fM b)(hid:b.id<=900)(hs:sizes.length<=8):
 iD (cbEv b sizes at_)/\dP [b.id] (fO (cbEv b sizes at_))/\cZ (barS b (chB 112)) [] (cbEv b sizes at_).rests=0/\nJ (barS b (chB 112)) (cbEv b sizes at_)=(cbEv b sizes at_).scrap/\
 0<=(cbEv b sizes at_).scrap/\(cbEv b sizes at_).scrap<=2000:=by
 have hlen:=hb.2.1
 have hlen2:=hb.2.2.1
 have hleft:0<=oC b.length at_/\oC b.length at_<=b.length:=by unfold oC;split<;>omega
 have hq:=bG0 hleft.1 sizes
 have hnn:0<=((cbL sizes 0 ([],oC b.length at_)).1.map Made.size).sum:=by
  have key:∀(l:List Made),(∀x∈l,1<=x.size)->0<=(l.map Made.size).sum:=by
   intro l
   induction l with
   |nil=>simp
   |cons x l ih=>
    intro h
    have h1:=ih (fun y hy=>h y (by simp[hy]))
    have h2:=h x (by simp)
    rw[List.map_cons,List.sum_cons];omega
  exact key _ (fun x hx=>(hq.each x hx).2.2.2)
 have hsum:=hq.sum
 have hl0:=hq.left
 have hrm:∀r∈nI b.length at_,r=⟨1000,bx0,at_,b.length⟩/\0<at_/\at_<b.length:=fun r hr=>by
  unfold nI at hr
  split at hr
  ·rename_i h;exact⟨List.mem_singleton.1 hr,h⟩
  ·cases hr
 have hre:∀r∈nI b.length at_,iG (barS b (chB 112)) r=0:=fun r hr=>by
  obtain⟨rfl,h1,h2⟩:=hrm r hr
  unfold iG
  rw[if_neg (by show¬true=false;decide),if_neg (by show¬bx0≠bx0;simp),if_neg (by show¬(at_<0\/b.length<=at_\/b.length<b.length);omega)]
 have hrl:(nI b.length at_).length<=1:=by unfold nI;split<;>simp
 have hR:cZ (barS b (chB 112)) [] (nI b.length at_)=0:=by
  cases hc:nI b.length at_ with
  |nil=>rfl
  |cons r R=>
   have:R=[] :=by rw[hc]at hrl;simp at hrl;exact hrl
   subst this
   have h1:=hre r (by rw[hc];simp)
   unfold cZ
   rw[if_neg (Classical.not_not.2 h1),if_neg (by simp)]
   rfl
 refine⟨aK5 (fun c hc=>?_) (fun r hr=>?_) (by have:=hq.len;omega) (by omega) hl0,qJ.2 ⟨fun n hn=>?_,?_⟩,hR,?_,hl0,by show(cbL sizes 0 ([],oC b.length at_)).2<=2000;omega⟩
 ·obtain⟨a1,a2,a3,a4⟩:=hq.each c hc
  exact⟨⟨by omega,by omega⟩,by rw[a3];exact yM (by decide),a4⟩
 ·obtain⟨rfl,h1,h2⟩:=hrm r hr
  exact⟨⟨show(1:Int)<=1000 by decide,show(1000:Int)<=1000000 by decide⟩, .inl rfl⟩
 ·intro hm
  rw[List.mem_singleton]at hm
  unfold fO at hn
  rcases List.mem_append.1 hn with hn|hn
  ·obtain⟨c,hc,rfl⟩:=List.mem_map.1 hn
   have:=(hq.each c hc).1
   omega
  ·obtain⟨r,hr,rfl⟩:=List.mem_map.1 hn
   obtain⟨rfl,h1,h2⟩:=hrm r hr
   have:(1000:Int)=b.id:=hm
   omega
 ·unfold fO
  rw[List.pairwise_append]
  refine⟨hq.up,?_,fun a ha c hc=>?_⟩
  ·show((nI b.length at_).map Rest.id).Pairwise _
   unfold nI
   split<;>simp
  ·obtain⟨x,hx,rfl⟩:=List.mem_map.1 ha
   obtain⟨r,hr,rfl⟩:=List.mem_map.1 hc
   obtain⟨rfl,h1,h2⟩:=hrm r hr
   have:=(hq.each x hx).1
   show x.id≠1000
   omega
 ·unfold nJ
  have hsz:gG (barS b (chB 112))=b.length:=rfl
  rw[hsz]
  have e1:subL b.length ((cbEv b sizes at_).cuts.map Made.size)=b.length- ((cbL sizes 0 ([],oC b.length at_)).1.map Made.size).sum:=by
   refine aC6 _ _ (by unfold R6;omega) (by omega) (fun c hc=>?_) ?_
   ·obtain⟨x,hx,rfl⟩:=List.mem_map.1 hc
    have:=(hq.each x hx).2.2.2
    omega
   ·show((cbL sizes 0 ([],oC b.length at_)).1.map Made.size).sum<=b.length
    omega
  rw[e1]
  have hrs:((eG (barS b (chB 112)) (cbEv b sizes at_).rests).map gG).sum=b.length-oC b.length at_/\∀c∈(eG (barS b (chB 112)) (cbEv b sizes at_).rests).map gG,0<=c:=by
   have er:(cbEv b sizes at_).rests=nI b.length at_:=rfl
   rw[er,mV hR]
   constructor
   ·unfold nI oC
    split
    ·rename_i h
     have h1:gG (dZ (barS b (chB 112)) ⟨1000,bx0,at_,b.length⟩)=b.length-at_:=by
      have h2:=hre ⟨1000,bx0,at_,b.length⟩ (by unfold nI;rw[if_pos h];simp)
      unfold dZ
      rw[if_neg (by show¬true=false;decide),if_pos h2]
      show W (b.length-at_)=_
      exact w_in (by omega)
     simp only[List.map_cons,List.map_nil,List.sum_cons,List.sum_nil,h1]
     omega
    ·simp only[List.map_nil,List.sum_nil];omega
   ·intro c hc
    obtain⟨y,hy,rfl⟩:=List.mem_map.1 hc
    obtain⟨r,hr,rfl⟩:=List.mem_map.1 hy
    exact(yP (hre r hr) (fun _=>by show R6 b.length;unfold R6;omega)).1
  rw[aC6 _ _ (by unfold R6;omega) (by omega) hrs.2 (by rw[hrs.1];omega),hrs.1]
  show _=(cbL sizes 0 ([],oC b.length at_)).2
  omega
theorem cR2{b:Bar}{sizes:List Int}{at_:Int}(hb:fM b)(hid:b.id<=900)(hs:sizes.length<=8):
 ∃s:aJ,kL inv0 0 [nD b,uX b.id (chB 112),cbEv b sizes at_] =(s,3,0)/\Good s 1000/\s.pieces.length=(cbEv b sizes at_).cuts.length/\s.scrap.2=(cbEv b sizes at_).scrap/\s.received.2=b.length/\
  (appR s (cbEv b sizes at_)=(inv0,7)\/(appR s (cbEv b sizes at_)=(inv0,8)/\(cbEv b sizes at_).cuts.length=0/\(cbEv b sizes at_).rests.length=0)):=by
 obtain⟨h1,h2,h3,h4,h5,h6⟩:=eC7 (at_:=at_) hb hid hs
 have hp:iM (chB 112):=yM (by decide)
 obtain⟨r1,r2,r3,r4⟩:=dH7 hb hp h1 rfl rfl h2 h3 h4
 have hlen:=hb.2.1
 have hlen2:=hb.2.2.1
 have gd:Good (cut5 (st2 b (chB 112)) (cbEv b sizes at_) 0 (barS b (chB 112))) 1000:=by
  have q1:=good_step (e:=nD b) cN2 (by rw[r2])
  rw[r2]at q1
  have q2:=good_step (e:=uX b.id (chB 112)) q1 (by rw[r3])
  rw[r3]at q2
  have q3:=good_step (e:=cbEv b sizes at_) q2 (by rw[r4])
  rw[r4]at q3
  refine q3.mono ?_
  have c1:=h1.2.2.2.2.2.2.2.1 rfl
  have c2:=c1.2.2.1
  have c3:=c1.2.2.2.1
  have m1:more (nD b)=1:=rfl
  have m2:more (uX b.id (chB 112))=1:=rfl
  have m3:more (cbEv b sizes at_)=1+(cbEv b sizes at_).cuts.length+(cbEv b sizes at_).rests.length:=rfl
  show 0+more (nD b)+more (uX b.id (chB 112))+more (cbEv b sizes at_)<=1000
  rw[m1,m2,m3]
  omega
 refine⟨_,r1,gd,?_,?_,?_,?_⟩
 ·rw[aG4]
  have key:∀(xs l:List Piece),(xs.foldl (putK Piece.id) l).length=l.length+xs.length:=by
   intro xs
   induction xs with
   |nil=>intro l;simp
   |cons x xs ih=>
    intro l
    rw[List.foldl_cons,ih,show(putK Piece.id l x).length=l.length+1 from mQ,List.length_cons]
    omega
  rw[key,List.length_map]
  show 0+_=_
  omega
 ·show W (0+(cbEv b sizes at_).scrap)=_
  rw[w_in (by omega)];omega
 ·show W (0+b.length)=_
  rw[w_in (by omega)];omega
 ·rw[aY8 h1 rfl]
  by_cases hn:fO (cbEv b sizes at_)=[]
  ·right
   have hc:(cbEv b sizes at_).cuts=[]/\(cbEv b sizes at_).rests=[] :=by
    unfold fO at hn
    obtain⟨a,c⟩:=List.append_eq_nil_iff.1 hn
    exact⟨List.map_eq_nil_iff.1 a,List.map_eq_nil_iff.1 c⟩
   refine⟨cF5 (by rw[hn];trivial) ?_,by rw[hc.1];rfl,by rw[hc.2];rfl⟩
   rintro⟨m,hm,_⟩
   rw[aF7,hc.2]at hm
   have:eG (barS b (chB 112)) [] =[] :=by unfold eG;split<;>rfl
   rw[this]at hm
   cases hm
  ·left
   refine dF5 (fun hfr=>?_)
   cases hi:fO (cbEv b sizes at_)with
   |nil=>exact hn hi
   |cons n r=>
    have:=(qJ.1 hfr).1 n (by rw[hi];simp)
    exact this (tY.2 (.inr (by rw[hi];simp)))
end Go.Proofs.Led
namespace Go.Ab
open Go
section
variable{T:Tab}{σ:St}
def MeltL(k g:Nat)(l:List V):List V->List V->Prop
 | [],[] =>True
 |x::xs,y::ys=>(y=x\/(x= .arr k g/\y= .sl l))/\MeltL k g l xs ys
 |_,_=>False
theorem MeltL.get{k g:Nat}{l:List V}:∀ {xs ys:List V},MeltL k g l xs ys->xs.length=ys.length/\∀(i:Nat) (y:V),ys[i]? =some y->∃x,xs[i]? =some x/\(y=x\/(x= .arr k g/\y= .sl l))
 | [],[],_=>⟨rfl,fun i y h=>by simp at h⟩
 |x::xs,z::ys,h=>by
  obtain⟨h1,h2⟩:=h
  obtain⟨e,h3⟩:=MeltL.get h2
  refine⟨by simp[e],fun i y hy=>?_⟩
  cases i with
  |zero=>simp at hy;subst hy;exact⟨x,by simp,h1⟩
  |succ i=>simp at hy;obtain⟨x',a,b⟩:=h3 i y hy;exact⟨x',by simpa using a,b⟩
 | [],_::_,h=>h.elim
 |_::_,[],h=>h.elim
noncomputable def meltAt(s0 k:Nat)(en:AE)(ys:List V)(σ:St):St:=⟨fun s=>cond (Nat.beq s s0) (.agg ys) (σ.env s),σ.bx,upd σ.ar k (some ⟨en.gen, .frz,en.ty,en.l⟩)⟩
theorem le_meltAt(s0 k:Nat){en:AE}{xs:List V}(ys:List V)(h:σ.ar k=some en)(hk:en.kind= .own\/en.kind= .ap)(hx:σ.env s0= .agg xs)(hr:MeltL k en.gen en.l xs ys):Le T σ (meltAt s0 k en ys σ):=by
 unfold Le
 intro Φ a w G inv
 obtain⟨O',inv1,_,_⟩:=inv.freeze h hk
 have hp:=inv.wfA k en h
 have har:Rv w {G with O:=O'} (G.av k en.gen) (.sl en.l):=inv1.arr k ⟨en.gen, .frz,en.ty,en.l⟩ (upd_same _ _ _)
 obtain⟨hlen,hget⟩:=hr.get
 refine⟨_,{inv1 with env:=fun s=>?_,wfE:=fun s=>?_}⟩
 ·cases hs:Nat.beq s s0 with
  |false=>
   have:(meltAt s0 k en ys σ).env s=σ.env s:=by show cond (Nat.beq s s0) _ _=_;rw[hs];rfl
   rw[this];exact inv1.env s
  |true=>
   have e:(meltAt s0 k en ys σ).env s= .agg ys:=by show cond (Nat.beq s s0) _ _=_;rw[hs];rfl
   have es:=Nat.eq_of_beq_eq_true hs
   rw[e]
   have h1:=inv1.env s
   subst es
   have h2:Rv w {G with O:=O'} (a.tmps.getD s undef) (.agg xs):=by rw[<-hx];exact h1
   revert h2
   generalize a.tmps.getD s undef=v
   intro h2
   cases h2 with
   |agg cs _ hl' ho hh=>
    refine .agg cs _ (by rw[<-hlen];exact hl') ho (fun i c y hc hy=>?_)
    obtain⟨x,hx',hz⟩:=hget i y hy
    have h3:=hh i c x hc hx'
    rcases hz with rfl|⟨rfl,rfl⟩
    ·exact h3
    ·rw[h3.oQ];exact har
 ·cases hs:Nat.beq s s0 with
  |false=>
   have:(meltAt s0 k en ys σ).env s=σ.env s:=by show cond (Nat.beq s s0) _ _=_;rw[hs];rfl
   rw[this];exact inv1.wfE s
  |true=>
   have e:(meltAt s0 k en ys σ).env s= .agg ys:=by show cond (Nat.beq s s0) _ _=_;rw[hs];rfl
   rw[e]
   have es:=Nat.eq_of_beq_eq_true hs
   subst es
   have h1:=inv1.wfE s
   have hx2:(σ.apps [.a k ⟨en.gen, .frz,en.ty,en.l⟩]).env s= .agg xs:=hx
   rw[hx2]at h1
   simp only[V.ok]at h1⊢
   refine aH.2 fun y hy=>?_
   obtain⟨i,hi⟩:=List.mem_iff_getElem?.1 hy
   obtain⟨x,hx',hz⟩:=hget i y hi
   rcases hz with rfl|⟨rfl,rfl⟩
   ·exact aH.1 h1 _ (List.mem_iff_getElem?.2 ⟨i,hx'⟩)
   ·simp only[V.ok];exact hp
end
end Go.Ab
