/-
  A call by its contract, of whichever kind.
-/
import Derived.Test.YtdjgbagnajikeaaGreatDoorA8
import Derived.Laws.Cover3
import Derived.Deep.LoopGhost
set_option linter.unusedVariables false
set_option linter.unusedSimpArgs false
noncomputable section
namespace Go.Ab
section
variable{T:Tab}{P:Program}{Φ:Fr}{σ:St}{a:Act}{w w':World}{G G':Gh}{K:VK}{o:Oper}{d:Nat}
def Mod.isB(i:Nat):Mod->Prop| .b j _=>j=i| .a _ _=>False
def Mod.isA(k:Nat):Mod->Prop| .b _ _=>False| .a j _=>j=k
theorem jJ(ms:List Mod)(i:Nat):∀σ:St,(∀m∈ms,¬m.isB i)->(σ.apps ms).bx i=σ.bx i:=by
 induction ms with
 |nil=>intro σ _;rfl
 |cons m r ih=>
  intro σ h;have:σ.apps (m::r)=(m.app σ).apps r:=rfl;rw[this,ih _ (fun m hm=>h m (List.mem_cons_of_mem _ hm))];have:=h m (List.mem_cons_self ..)
  cases m with
  |b j cs=>exact upd_ne _ _ (fun e=>this e.symm)
  |a j en=>rfl
theorem lW(ms:List Mod)(i:Nat):∀σ:St,(∀m∈ms,¬m.isA i)->(σ.apps ms).ar i=σ.ar i:=by
 induction ms with
 |nil=>intro σ _;rfl
 |cons m r ih=>
  intro σ h;have:σ.apps (m::r)=(m.app σ).apps r:=rfl;rw[this,ih _ (fun m hm=>h m (List.mem_cons_of_mem _ hm))];have:=h m (List.mem_cons_self ..)
  cases m with
  |a j cs=>exact upd_ne _ _ (fun e=>this e.symm)
  |b j en=>rfl
theorem aI2(ms:List Mod)(i:Nat):∀σ σ':St,((∃m∈ms,m.isB i)\/σ.bx i=σ'.bx i)->(σ.apps ms).bx i=(σ'.apps ms).bx i:=by
 induction ms with
 |nil=>intro σ σ' h;exact h.resolve_left (fun⟨m,hm,_⟩=>Bg)
 |cons m r ih=>
  intro σ σ' h;show((m.app σ).apps r).bx i=((m.app σ').apps r).bx i;apply ih;rcases h with⟨m',hm',hb⟩|h
  ·rcases List.mem_cons.1 hm' with rfl|hm'
   ·right
    cases m' with
    |b j cs=>cases hb;show upd _ _ _ _=upd _ _ _ _;rw[upd_same,upd_same]
    |a j en=>exact hb.elim
   ·exact .inl ⟨m',hm',hb⟩
  ·right
   cases m with
   |b j cs=>exact Jp
   |a j en=>exact h
theorem aI9(ms:List Mod)(i:Nat):∀σ σ':St,((∃m∈ms,m.isA i)\/σ.ar i=σ'.ar i)->(σ.apps ms).ar i=(σ'.apps ms).ar i:=by
 induction ms with
 |nil=>intro σ σ' h;exact h.resolve_left (fun⟨m,hm,_⟩=>Bg)
 |cons m r ih=>
  intro σ σ' h;show((m.app σ).apps r).ar i=((m.app σ').apps r).ar i;apply ih;rcases h with⟨m',hm',hb⟩|h
  ·rcases List.mem_cons.1 hm' with rfl|hm'
   ·right
    cases m' with
    |a j cs=>cases hb;show upd _ _ _ _=upd _ _ _ _;rw[upd_same,upd_same]
    |b j en=>exact hb.elim
   ·exact .inl ⟨m',hm',hb⟩
  ·right
   cases m with
   |a j cs=>exact Jp
   |b j en=>exact h
theorem aN6(ms:List Mod)(i:Nat):∀σ:St,((∃m∈ms,m.isB i)\/σ.bx i≠none)->(σ.apps ms).bx i≠none:=by
 induction ms with
 |nil=>intro σ h;exact h.resolve_left (fun⟨m,hm,_⟩=>Bg)
 |cons m r ih=>
  intro σ h;show((m.app σ).apps r).bx i≠none;apply ih;rcases h with⟨m',hm',hb⟩|h
  ·rcases List.mem_cons.1 hm' with rfl|hm'
   ·right
    cases m' with
    |b j cs=>cases hb;show upd _ _ _ _≠none;rw[upd_same];simp
    |a j en=>exact hb.elim
   ·exact .inl ⟨m',hm',hb⟩
  ·right
   cases m with
   |b j cs=>exact JE
   |a j en=>exact h
theorem aO2(ms:List Mod)(i:Nat):∀σ:St,((∃m∈ms,m.isA i)\/σ.ar i≠none)->(σ.apps ms).ar i≠none:=by
 induction ms with
 |nil=>intro σ h;exact h.resolve_left (fun⟨m,hm,_⟩=>Bg)
 |cons m r ih=>
  intro σ h;show((m.app σ).apps r).ar i≠none;apply ih;rcases h with⟨m',hm',hb⟩|h
  ·rcases List.mem_cons.1 hm' with rfl|hm'
   ·right
    cases m' with
    |a j cs=>cases hb;show upd _ _ _ _≠none;rw[upd_same];simp
    |b j en=>exact hb.elim
   ·exact .inl ⟨m',hm',hb⟩
  ·right
   cases m with
   |a j cs=>exact JE
   |b j en=>exact h
theorem dZ3{ar:Nat->Option AE}{is:List Nat}{x y:V}{k:Nat}(h:aP8 T ar is x y)(hl:linear y=true)(hk:k∈jQ x):∃en,ar k=some en:=by
 have key:wU T ar x y->∃en,ar k=some en:=by
  intro h
  cases y with
  |own e l=>
   cases x with
   |arr k' g=>
    have hkk:k=k':=by simpa [jQ]using hk
    subst hkk;have h':(match ar k with|some en=>en.gen=g/\en.kind= .own/\en.ty=e/\en.l=l|none=>False):=h
    exact NP
   |agg cs=>exact(h:False).elim
   |_=>simp[jQ]at hk
  |ap e l=>
   cases x with
   |arr k' g=>
    have hkk:k=k':=by simpa [jQ]using hk
    subst hkk;have h':(match ar k with|some en=>en.gen=g/\(en.kind= .own\/en.kind= .ap)/\en.ty=e/\en.l=l|none=>False):=h
    exact NP
   |agg cs=>exact(h:False).elim
   |_=>simp[jQ]at hk
  |_=>simp[linear]at hl
 cases y with
 |own e l=>exact key h
 |ap e l=>exact key h
 |_=>simp[linear]at hl
set_option maxHeartbeats 1600000 in
theorem fB8(inv:Inv T Φ σ a w G){f:FuncId}{us:List Value}{xs:List V}(hul:us.length=xs.length)(hrel:∀(i:Nat) v x,us[i]? =some v->xs[i]? =some x->Rv w G v x/\x.ok σ.hasB σ.hasA){ys:List V}{is:List Nat}{bs:List (List V)}{r:V}{bs':List (List V)}
 (hgive:xM T σ.ar is ((xs,ys)::eU σ.bx bs is))(hcok:zA σ.bx ((xs,ys)::eU σ.bx bs is) is bs r=true)(hspec:aU2 T P f ys bs r bs')
 (hk:aX2 σ.bx σ.ar is (ownG ((xs,ys)::eU σ.bx bs is)) d r bs' fun v ms=>K v (appR (aV σ (mF ((xs,ys)::eU σ.bx bs is))) (appR (aX σ (ownG ((xs,ys)::eU σ.bx bs is))) ms))):
 Calls P f us.toArray w fun e w'=>∃v',e= .returned v'/\∃v ms G',K v ms/\Inv T Φ (σ.apps ms) a w' G'/\Rv w' G' v' v/\v.ok (σ.apps ms).hasB (σ.apps ms).hasA:=by
 refine(cS4 inv hul hrel rfl hgive hcok hspec).mono ?_;have hlens:=hspec.2.1;clear hspec;obtain⟨hnd,hdisj,hni,hil,hisb,hblen,hi8,hrlen⟩:=aL0 hcok;have hbl:bs'.length=bs.length:=Di
 have hgv:∀(γ:Nat) (g:List V×List V),((xs,ys)::eU σ.bx bs is)[γ]? =some g->g.1.length=g.2.length/\∀(q:Nat) x y,g.1[q]? =some x->g.2[q]? =some y->aP8 T σ.ar is x y:=fun γ g hg=>aB1 (aJ8 hgive γ g hg)
 have gj:∀(j:Nat) (i:Nat) b,is[j]? =some i->bs[j]? =some b->((xs,ys)::eU σ.bx bs is)[j+1]? =some ((σ.bx i).getD [],b):=by
  intro j i b h1 h2;rw[List.getElem?_cons_succ];exact(aR3 hil j _).2 ⟨i,b,h1,h2,rfl⟩
 generalize hgs:(xs,ys)::eU σ.bx bs is=gs at*
 have hoks:∀k∈ownG gs,σ.ar k≠none:=by
  intro k hk hn;obtain⟨γ,q,g,h1,x,y,h2,h3,h4,h5⟩:=aP0.1 hk;obtain⟨en,hen⟩:=dZ3 ((hgv γ g h1).2 q x y h2 h3) h4 h5;rw[hen]at hn;cases hn
 have hposk:∀(j i:Nat) cs (q k g:Nat),is[j]? =some i->σ.bx i=some cs->cs[q]? =some (.arr k g)->k∈ownG gs->PosG gs (j+1) q k:=by
  intro j i cs q k g hj hc hq hk;have hjb:j<bs.length:=DW;have hg:=gj j i bs[j] hj (List.getElem?_eq_getElem hjb)
  rw[hc]at hg;simp only[Option.getD_some]at hg;have hlen:=(hgv _ _ hg).1;have hqb:q<bs[j].length:=DK
  refine⟨_,hg,_,bs[j][q],hq,List.getElem?_eq_getElem hqb,?_,by simp[jQ]⟩
  cases hl:linear bs[j][q]with
  |true=>rfl
  |false=>
   exfalso;exact hdisj k hk (aS8.2 ⟨j+1,_,hg,nP.2 ⟨q,_,_,hq,List.getElem?_eq_getElem hqb,hl,by simp[jQ]⟩⟩)
 rintro e w1 ⟨v,G1,G2,rfl,hres,hbx1,inv2,hpend,hkx,hβ2,har2,hav⟩;refine⟨v,rfl,?_⟩;generalize hok:ownG gs=ok at*;generalize hvk:mF gs=vk at*;generalize hσ2:σ.apps (aV σ vk++aX σ ok++oM σ.bx is)=σ2 at*
 have hbx2:∀i,σ2.bx i=if i∈is then some (((σ.bx i).getD []).map fun _=>V.bot)else σ.bx i:=fun i=>by
  rw[<-hσ2,dO,bX5,aR5 σ _ (fun m hm=>by
   rcases List.mem_append.1 hm with hm|hm
   ·exact bF7 σ vk m hm
   ·exact aS3 σ ok m hm)]
 have hdead:∀k en,k∈ok->σ.ar k=some en->∀g',σ2.hasA k g'->g'<=en.gen:=by
  rintro k en hk hen g' ⟨en2,q1,q2⟩;rw[har2,if_pos hk,hen]at q1;cases q1;exact q2
 have hrenF:∀i',Lent bs.length i'->∃(j i:Nat),i'=100000+j/\is[j]? =some i/\renF is i'=i:=by
  rintro i' ⟨h1,h2⟩;have hj:i'-100000<is.length:=Aa;refine⟨i'-100000,is[i'-100000],Aa,List.getElem?_eq_getElem hj,?_⟩;show nthD is (i'-100000)=_;unfold nthD;rw[uN,List.getElem?_eq_getElem hj]
 have hβ0:∀i',Lent bs.length i'->G2.β (renF is i')=G1.β i'/\σ2.hasB (renF is i'):=by
  intro i' hi';obtain⟨j,i,rfl,h2,h3⟩:=hrenF i' hi';rw[h3];refine⟨hβ2 j i h2,?_⟩;unfold St.hasB;rw[hbx2,if_pos (List.mem_of_getElem? h2)];exact⟨_,rfl⟩
 have hnone:is=[]->bs'=[] :=fun h=>by
  have e1:bs'.length=0:=by rw[hbl,<-hil,h];rfl
  exact List.length_eq_zero_iff.1 e1
 have common:∀(rs olds:List V),((∀(q k g:Nat),olds[q]? =some (.arr k g)->False)\/(is=[]/\olds.length=1))->∀(us:List Value),us.length=rs.length->rs.length<1000->(∀(i:Nat) u y,us[i]? =some u->rs[i]? =some y->RbB T w1 G1 bs.length i u y)->∀(K':List V->List Mod->Prop),
  (oJ σ.ar is ok rs olds d fun vs ms=>aB3 σ.bx σ.ar is ok bs' is (d+1000000) fun ns=>K' vs (appR ms ns))->
  ∃vs ms G',K' vs ms/\Inv T Φ (σ2.apps ms) a w1 G'/\vs.length=rs.length/\(∀(i:Nat) u v,us[i]? =some u->vs[i]? =some v->Rv w1 G' u v/\v.ok (σ2.apps ms).hasB (σ2.apps ms).hasA)/\∀i∈is,∃cs,Mod.b i cs∈ms:=by
  intro rs olds hbot us hul hr1 hrb K' hrec
  obtain⟨vs,ms,G3,b1,b2,b3,b4,b5,b6,b7,b8,b9,b10,b11⟩:=aU0 (Gx:=G1) (σ0:=σ) (is:=is) (ok:=ok) (n:=bs.length) rs olds d 0 σ2 G2 us _ inv2 hul
   (fun q _ hn=>by rw[har2,hn];simp)
   (fun q k g en hq hk hen g' hh=>hdead k en hk hen g' hh) (fun q q' k g g' hq hq' _=>by
    rcases hbot with hbot|⟨_,hbot⟩
    ·exact(hbot q k g hq).elim
    ·have h1:=(List.getElem?_eq_some_iff.1 hq).1
     have h2:=(List.getElem?_eq_some_iff.1 hq').1;omega)
   (fun i u y hu hy=>Fe) hkx hβ0 (fun i b _ hb=>hpend _ b hb) hrec
  obtain⟨ns,G',d1,d2,d3,d4,d5,d6,d7,d8⟩:=cI1 (Gx:=G1) (σ0:=σ) (is:=is) (ok:=ok) (n:=bs.length) hoks bs' is (d+1000000) 100000 (σ2.apps ms) G3 _ b2
   (fun j b i hb hi=>by
    obtain⟨cs,hcs⟩:=hisb i (List.mem_of_getElem? hi);obtain⟨p1,c,t,p2,p3,p4⟩:=hbx1 j b hb;have hj:j<bs.length:=by rw[<-hbl];exact(List.getElem?_eq_some_iff.1 hb).1
    refine⟨cs,_,c,t,hcs,by rw[b10,hbx2,if_pos (List.mem_of_getElem? hi)],by rw[b5,hβ2 j i hi];exact p2,p3,?_,fun q v y hv hy=>?_⟩
    ·have e1:(bs'.map List.length)[j]? =some b.length:=by rw[List.getElem?_map,hb];rfl
     rw[hlens]at e1;have e2:(bs.map List.length)[j]? =some bs[j].length:=Gz;rw[e2]at e1;have:=hblen bs[j] (List.getElem_mem hj)
     rw[Option.some.inj e1]at this;exact this
    ·have:=p4 q v y hv hy
     rw[hbl]at this;rwa [show 100000*(j+1)+q=100000+100000*j+q from Aa]at this)
   (fun j b hb q hq hn=>by
    rcases hbot with hbot|⟨hbot,_⟩
    ·rw[b11 _ (fun q' hq' _ e=>Aa) (fun q' g' hq'=>(hbot q' _ g' hq').elim),har2,hn]
     simp
    ·rw[hnone hbot]at hb;cases hb)
   (fun j i cs q k g en hj hc hq hk hen g' hh=>by
    obtain⟨en',h1,h2⟩:=hh;rcases hbot with hbot|⟨hbot,_⟩
    ·rw[b11 k (fun q' _ hn e=>DJ) (fun q' g' hq'=>(hbot q' _ g' hq').elim)]at h1
     exact hdead k en hk hen g' ⟨en',h1,h2⟩
    ·rw[hbot]at hj;cases hj)
   (fun j j' i i' cs cs' q q' k g g' hj hj' hc hc' hq hq' hk=>by
    have:=aA3 EG (hposk j i cs q k g hj hc hq hk) (hposk j' i' cs' q' k g' hj' hc' hq' hk);omega)
   ⟨fun b hb=>(b7 b (by rw[hkx.fz b hb];simp)).trans (hkx.fz b hb),fun _ _=>rfl⟩
   (fun i' hi'=>⟨by rw[b5];exact(hβ0 i' hi').1,by obtain⟨x,hx⟩:=(hβ0 i' hi').2;exact⟨x,by rw[b10];exact hx⟩⟩)
   (fun j b hb q blk hq hO=>by
    have:=hpend _ blk hO;refine⟨?_,this.2⟩;rw[b8 blk (fun i0 hi0=>EY)];exact this.1) b1
  refine⟨vs,appR ms ns,G',d1,by rw[bT,dO];exact d2,b3,fun i u v hu hv=>?_,fun i hi=>?_⟩
  ·obtain⟨q1,q2⟩:=b4 i u v hu hv
   rw[bT,dO];have hkp:Keep w1 w1 G3 G':=⟨fun b hb=>(d5 b Au).trans hb,fun _ _=>rfl⟩;exact⟨q1.keep hkp q2 (fun i _=>by rw[d3]) d4,V.ok.imp d7 d6 _ q2⟩
  ·obtain⟨cs,h⟩:=d8 i hi
   exact⟨cs,by rw[bT];simp[h]⟩
 have hstate:∀ms:List Mod,(∀i∈is,∃cs,Mod.b i cs∈ms)->σ.apps (appR (aV σ vk) (appR (aX σ ok) ms))=σ2.apps ms:=by
  intro ms hms;have e1:σ.apps (appR (aV σ vk) (appR (aX σ ok) ms))=(σ.apps (aV σ vk++aX σ ok)).apps ms:=by rw[bT,bT,<-List.append_assoc];exact dO _ _ _
  have e2:σ2=(σ.apps (aV σ vk++aX σ ok)).apps (oM σ.bx is):=hσ2.symm.trans (dO _ _ _);rw[e1,e2];generalize σ.apps (aV σ vk++aX σ ok)=τ;have h1:(τ.apps ms).env=((τ.apps (oM σ.bx is)).apps ms).env:=by rw[vM,vM,vM]
  have h2:(τ.apps ms).bx=((τ.apps (oM σ.bx is)).apps ms).bx:=by
   funext i;refine aI2 ms i _ _ ?_;by_cases hi:i∈is
   ·obtain⟨cs,h⟩:=hms i hi
    exact .inl ⟨_,h,rfl⟩
   ·rw[bX5,if_neg hi];exact .inr rfl
  have h3:(τ.apps ms).ar=((τ.apps (oM σ.bx is)).apps ms).ar:=by
   funext k;exact aI9 ms k _ _ (.inr (by rw[dI5]))
  generalize τ.apps ms=s1 at*;generalize (τ.apps (oM σ.bx is)).apps ms=s2 at*;exact Oz
 unfold aX2 at hk;split at hk
 ·rename_i rs
  obtain⟨vs',e1,e2,e3⟩:∃vs:Array Value,v= .tuple vs/\vs.size=rs.length/\∀(j:Nat) u y,vs[j]? =some u->rs[j]? =some y->RbB T w1 G1 bs.length j u y:=hres;rw[dU]at hk
  obtain⟨vs,ms,G',b1,b2,b3,b4,b5⟩:=common rs (rs.map fun _=> .bot) (.inl (fun q k g hq=>by
   rw[List.getElem?_map]at hq
   cases hy:rs[q]? with
   |none=>rw[hy]at hq;cases hq
   |some y=>rw[hy]at hq;simp at hq)) vs'.toList F5 (hrlen rs rfl) (fun i u y hu hy=>e3 i u y AX hy) (fun vs ms=>K (.tup vs) (appR (aV σ vk) (appR (aX σ ok) ms))) hk
  refine⟨.tup vs,_,G',b1,by rw[hstate ms b5];exact b2,?_,?_⟩
  ·exact Ku
  ·rw[hstate ms b5]
   simp only[V.ok];refine aH.2 fun x hx=>?_;obtain⟨i,hi⟩:=List.getElem?_of_mem hx;have hlt2:i<vs'.toList.length:=Bh
   exact(b4 i _ x (List.getElem?_eq_getElem hlt2) hi).2
 ·rename_i hnt
  have hres':RbB T w1 G1 bs.length 0 v r:=by
   unfold RrB at hres;split at hres
   ·exact(hnt _ rfl).elim
   ·exact hres
  have hold:(∀(q k g:Nat),[dB5 is ok][q]? =some (.arr k g)->False)\/(is=[]/\ [dB5 is ok].length=1):=by
   cases is with
   |nil=>exact .inr ⟨rfl,rfl⟩
   |cons i ir=>
    refine .inl fun q k g hq=>?_
    cases q with
    |zero=>cases hq
    |succ q=>simp at hq
  obtain⟨vs,ms,G',b1,b2,b3,b4,b5⟩:=common [r] [dB5 is ok] hold [v] rfl Ae (fun i u y hu hy=>by
   cases i with
   |zero=>simp at hu hy;subst hu;subst hy;exact hres'
   |succ i=>simp at hu) (fun vs ms=>match vs with|v::_=>K v (appR (aV σ vk) (appR (aX σ ok) ms))| [] =>False) (by
   refine cQ2 (fun vs ms h=>?_) hk
   cases vs with
   |nil=>exact(h:False).elim
   |cons v r=>exact h)
  match vs,b3 with
  | [x],_=>
    obtain⟨q1,q2⟩:=b4 0 v x rfl rfl;exact⟨x,_,G',b1,by rw[hstate ms b5];exact b2,q1,by rw[hstate ms b5];exact q2⟩
theorem cP8(inv:Inv T Φ σ a w G){light:Md}{f:FuncId}{us:List Value}{xs:List V}(hul:us.length=xs.length)(hrel:∀(i:Nat) v x,us[i]? =some v->xs[i]? =some x->Rv w G v x/\x.ok σ.hasB σ.hasA)(h:kY T P light σ d f xs K):
 callable P f=true/\Calls P f us.toArray w fun e w'=>∃v',e= .returned v'/\∃v ms G',K v ms/\Inv T Φ (σ.apps ms) a w' G'/\Rv w' G' v' v/\v.ok (σ.apps ms).hasB (σ.apps ms).hasA:=by
 rcases h.out with⟨ys,r,lend,h1,h2,h3,h4⟩|⟨_,ys,r,j,k,g,e,l,l',h1,h2,h3,h4,h5,h6,h7⟩|⟨ys,is,bs,r,bs',_,h1,h2,h3,h4⟩|⟨_,ys,cells,h1,h2,h3,h4,h5⟩
 ·exact⟨h3.1,eJ8 inv hul hrel h1 h2 h3 h4⟩
 ·exact⟨h3.1,eO2 inv hul hrel h1 h2 h3 h4 h5 h6 h7⟩
 ·exact⟨h3.1,fB8 inv hul hrel h1 h2 h3 h4⟩
 ·exact⟨h3.1,call_new inv hul hrel h1 h2 h3 h4 h5⟩
theorem bF2(inv:Inv T Φ σ a w G){light:Md}{f:FuncId}(as:List Operand)(h:kY T P light σ d f (as.map σ.ev) K):
 callable P f=true/\Calls P f (as.map a.eval).toArray w fun e w'=>∃v',e= .returned v'/\∃v ms G',K v ms/\Inv T Φ (σ.apps ms) a w' G'/\Rv w' G' v' v/\v.ok (σ.apps ms).hasB (σ.apps ms).hasA:=by
 refine cP8 inv Ae (fun i v x hv hx=>?_) h
 have hi:i<as.length:=by
  have:=(List.getElem?_eq_some_iff.1 hv).1;simpa using this
 have e1:v=a.eval as[i] :=by simpa [hi]using hv.symm
 have e2:x=σ.ev as[i] :=by simpa [hi]using hx.symm
 rw[e1,e2];exact inv.ev as[i]
end
theorem dE7(i:Nat)(cs xs:List V):(V.agg xs).frz i cs= .agg (xs.map (V.frz i cs)):=by
 have h:∀l:List V,(V.agg l).frz i cs= .agg (l.map (V.frz i cs)):=by
  intro l
  induction l with
  |nil=>rfl
  |cons x r ih=>
   have e1:(V.agg (x::r)).frz i cs=(match(V.agg r).frz i cs with| .agg l=> .agg (x.frz i cs::l)|y=>y):=rfl
   rw[e1,ih];rfl
 exact h xs
theorem dB9(i:Nat)(cs xs:List V):(V.tup xs).frz i cs= .tup (xs.map (V.frz i cs)):=by
 have h:∀l:List V,(V.tup l).frz i cs= .tup (l.map (V.frz i cs)):=by
  intro l
  induction l with
  |nil=>rfl
  |cons x r ih=>
   have e1:(V.tup (x::r)).frz i cs=(match(V.tup r).frz i cs with| .tup l=> .tup (x.frz i cs::l)|y=>y):=rfl
   rw[e1,ih];rfl
 exact h xs
theorem eK0(i:Nat)(cs:List V)(g:FuncId)(xs:List V):(V.fn g xs).frz i cs= .fn g (xs.map (V.frz i cs)):=by
 have h:∀l:List V,(V.fn g l).frz i cs= .fn g (l.map (V.frz i cs)):=by
  intro l
  induction l with
  |nil=>rfl
  |cons x r ih=>
   have e1:(V.fn g (x::r)).frz i cs=(match(V.fn g r).frz i cs with| .fn g l=> .fn g (x.frz i cs::l)|y=>y):=rfl
   rw[e1,ih];rfl
 exact h xs
theorem zG(i off:Nat)(cs:List V):(V.box i off).frz i cs= .fp (cs.drop off):=by
 show cond (Nat.beq i i) (V.fp (jX cs off)) (.box i off)=_;rw[Nat.beq_refl,cond_true,lQ]
theorem bI5{i j off:Nat}(cs:List V)(h:j≠i):(V.box j off).frz i cs= .box j off:=by
 show cond (Nat.beq j i) (V.fp (jX cs off)) (.box j off)=_;have:Nat.beq j i=false:=EN;rw[this,cond_false]
section
variable{T:Tab}{P:Program}{Φ:Fr}{σ:St}{a:Act}{w:World}{G:Gh}
mutual
theorem V.ok.frz{p p':Nat->Prop}{q:Nat->Nat->Prop}{i:Nat}{cs:List V}(hp:∀j,p j->j≠i->p' j)(hcs:bM cs):(x:V)->x.ok p q->(x.frz i cs).ok p' q
 | .bot,_=>FK
 | .lit u,_=>Ff
 | .agg l,h=>by
   rw[dE7];simp only[V.ok]at h⊢;exact V.okL.frz hp hcs l h
 | .tup l,h=>by
   rw[dB9];simp only[V.ok]at h⊢;exact V.okL.frz hp hcs l h
 | .sl l,h=>DL
 | .cap l,h=>DF
 | .own e l,h=>Dv
 | .ap e l,h=>D7
 | .box j off,h=>by
   by_cases e:j=i
   ·subst e
    rw[zG];simp only[V.ok];exact aH.2 fun y hy=>aH.1 hcs y (List.mem_of_mem_drop hy)
   ·rw[bI5 cs e]
    simp only[V.ok]at h⊢;exact hp j h e
 | .arr k g,h=>Dw
 | .fp l,h=>DN
 | .ae k g z i' o,h=>CZ
 | .fn g l,h=>by
   rw[eK0];simp only[V.ok]at h⊢;exact V.okL.frz hp hcs l h
theorem V.okL.frz{p p':Nat->Prop}{q:Nat->Nat->Prop}{i:Nat}{cs:List V}(hp:∀j,p j->j≠i->p' j)(hcs:bM cs):(l:List V)->V.okL p q l->V.okL p' q (l.map (V.frz i cs))
 | [],_=>by simp only[List.map_nil,V.okL]
 |x::r,h=>by
  simp only[List.map_cons,V.okL]at h⊢;exact⟨V.ok.frz hp hcs x h.1,V.okL.frz hp hcs r h.2⟩
end
theorem Rv.frz{i:Nat}{cs:List V}{c:Array Value}{t:TypeId}(hw:w.heap[G.β i]? =some (.cells c t (0,0)))(hc:RvL w G c.toList cs)(hcs:bM cs)(hO:G.O (G.β i)= .bx i){v:Value}{x:V}(h:Rv w G v x):
 ∀ {p:Nat->Prop} {q:Nat->Nat->Prop},x.ok p q->Rv w {G with O:=upd G.O (G.β i) .fz} v (x.frz i cs):=by
 have hkp:Keep w w G {G with O:=upd G.O (G.β i) .fz}:=⟨fun b hb=>by
  show upd G.O _ _ b=_;by_cases e:b=G.β i
  ·subst e;rw[upd_same]
  ·rw[upd_ne _ _ e];exact hb,fun _ _=>rfl⟩
 induction h with
 |bot v=>intros;exact .bot v
 |lit u h=>intros;exact .lit u h
 |agg vs xs hl ho _ ih=>
  intro p q hok;simp only[V.ok]at hok;rw[dE7];refine .agg vs _ AQ ho fun j c x hc hx=>?_;exact NF
 |tup vs xs hl _ ih=>
  intro p q hok;simp only[V.ok]at hok;rw[dB9];refine .tup vs _ AQ fun j c x hc hx=>?_;exact NF
 |slN=>intros;exact .slN
 |slS a c l sz cc h1 h2 h3 h4 h5 h6 _=>
  intro p q hok;exact(Rv.slS a c l sz cc h1 h2 h3 h4 h5 h6).aW hkp AP
 |capN=>intros;exact .capN
 |capS a l sz cc h2 h3 h4 h5 h6 _=>
  intro p q hok;exact(Rv.capS a l sz cc h2 h3 h4 h5 h6).aW hkp AP
 |box j off=>
  intro p q hok;by_cases e:j=i
  ·subst e
   rw[zG];have hh:=(RvL.here (n:=c.toList.length) hw (by rw[List.take_length];exact hc)).out
   obtain⟨cc,q1,q2⟩:=hh;refine .fp ⟨G.β j,off,none⟩ _ (fun k=>cc (off+k)) (fun _=>by show upd G.O _ _ (G.β j)=_;rw[upd_same]) (fun k y hy=>?_) (fun k y hy=>?_)
   ·rw[List.getElem?_drop]at hy
    have:=q1 (off+k) y hy;rw[rY]at this⊢;rw[Nat.zero_add]at this;exact this
   ·rw[List.getElem?_drop]at hy
    exact(q2 _ y hy).aW hkp (aH.1 hcs y (List.mem_of_getElem? hy))
  ·rw[bI5 cs e]
   exact Rv.box (G:={G with O:=upd G.O (G.β i) .fz}) j off
 |arr k g h=>
  intro p q hok;exact Rv.arr (G:={G with O:=upd G.O (G.β i) .fz}) k g h
 |fp a l cc h1 h2 h3 _=>
  intro p q hok;exact(Rv.fp a l cc h1 h2 h3).aW hkp AP
 |ae k g sz j off a n c h=>
  intro p q hok;exact Rv.ae (G:={G with O:=upd G.O (G.β i) .fz}) k g sz j off a n c h
 |fn g lb caps hl _ ih=>
  intro p q hok;simp only[V.ok]at hok;rw[eK0];refine .fn g lb _ AQ fun j c x hc hx=>?_;rw[List.getElem?_map]at hx
  cases hy:caps[j]? with
  |none=>rw[hy]at hx;cases hx
  |some y=>exact Ip
 |fb g fs caps hl _ ih=>
  intro p q hok;simp only[V.ok,V.okL]at hok;rw[eK0];refine .fb g fs (caps.map (V.frz i cs)) AQ fun j c x hc hx=>?_;rw[List.getElem?_map]at hx
  cases hy:caps[j]? with
  |none=>rw[hy]at hx;cases hx
  |some y=>
   rw[hy]at hx;simp only[Option.map_some,Option.some.injEq]at hx;subst hx;exact ih j c y hc hy (aH.1 hok.2 y (List.mem_of_getElem? hy))
 |mp b ents clock g kz es val h1 h2 h3 h4 h5 h6 _=>
  intro p q hok;exact(Rv.mp b ents clock g kz es val h1 h2 h3 h4 h5 h6).aW hkp Es
theorem bP0{i:Nat}{cs:List V}{bx:Nat->Option (List V)}{j:Nat}{l:List V}(h:frzB i cs bx j=some l):j≠i/\∃l0,bx j=some l0/\l=l0.map (V.frz i cs):=by
 unfold frzB at h
 cases hb:Nat.beq j i with
 |true=>rw[hb]at h;cases h
 |false=>
  rw[hb,cond_false]at h;refine⟨(fun e=>by subst e;rw[Nat.beq_refl]at hb;cases hb),?_⟩
  split at h
  ·cases h
  ·rename_i l0 hl0
   cases h;exact⟨l0,hl0,by rw[dU]⟩
theorem dE5{i:Nat}{cs:List V}{bx:Nat->Option (List V)}{j:Nat}{l0:List V}(hj:j≠i)(h:bx j=some l0):frzB i cs bx j=some (l0.map (V.frz i cs)):=by
 unfold frzB;have:Nat.beq j i=false:=by rw[<-Bool.not_eq_true,Nat.beq_eq];exact hj
 rw[this,cond_false,h];simp only[dU]
theorem Inv.bV0(inv:Inv T Φ σ a w G){i:Nat}{cs:List V}(hi:σ.bx i=some cs)(hil:i<100000)(hcs:bM cs):
 Inv T Φ ⟨fun s=>(σ.env s).frz i cs,frzB i cs σ.bx,σ.ar⟩ a w {G with O:=upd G.O (G.β i) .fz}/\Keep w w G {G with O:=upd G.O (G.β i) .fz}:=by
 obtain⟨c,t,hw,hc,hO⟩:=inv.box i cs hi
 have hkp:Keep w w G {G with O:=upd G.O (G.β i) .fz}:=⟨fun b hb=>by
  show upd G.O _ _ b=_;by_cases e:b=G.β i
  ·subst e;rw[upd_same]
  ·rw[upd_ne _ _ e];exact hb,fun _ _=>rfl⟩
 have hB:∀j,σ.hasB j->j≠i->St.hasB ⟨fun s=>(σ.env s).frz i cs,frzB i cs σ.bx,σ.ar⟩ j:=fun j ⟨l,hl⟩ hj=>⟨_,dE5 hj hl⟩
 have hO':∀b,upd G.O (G.β i) Tag.fz b=G.O b\/(b=G.β i/\upd G.O (G.β i) Tag.fz b= .fz):=fun b=>by
  by_cases e:b=G.β i
  ·subst e;exact .inr ⟨rfl,upd_same _ _ _⟩
  ·exact .inl (upd_ne _ _ e)
 refine⟨{nd:=inv.nd,kp:=inv.kp,sz:=inv.sz,env:= ?_,wfE:= ?_,box:= ?_,wfB:= ?_,arr:= ?_,wfA:=inv.wfA,tag:= ?_,mineB:= ?_,mineA:= ?_,fzm:= ?_,F0:= ?_,lay:=inv.lay,frame:=inv.frame,size:=inv.size,os:=inv.os,tape:=inv.tape,output:=inv.output,args:=inv.args,argb:=fun j b h=>⟨(inv.argb j b h).1,(inv.argb j b h).2.1,_,dE5 (fun e=>by have:=(inv.argb j b h).2.1.1;omega) (inv.argb j b h).2.2.choose_spec⟩},hkp⟩
 ·intro s;exact(inv.env s).frz hw hc hcs hO (inv.wfE s)
 ·intro s;exact V.ok.frz hB hcs _ (inv.wfE s)
 ·intro j l hl
  obtain⟨hj,l0,h0,rfl⟩:=bP0 hl;obtain⟨c',t',q1,q2,q3⟩:=inv.box j l0 h0;refine⟨c',t',q1,⟨by simpa using q2.len,q2.one,fun k v x hv hx=>?_⟩,?_⟩
  ·rw[List.getElem?_map]at hx
   cases hy:l0[k]? with
   |none=>rw[hy]at hx;cases hx
   |some y=>
    rw[hy]at hx;simp only[Option.map_some,Option.some.injEq]at hx;subst hx;exact(q2.rel k v y hv hy).frz hw hc hcs hO (aH.1 (inv.wfB j l0 h0) y (List.mem_of_getElem? hy))
  ·show upd G.O _ _ (G.β j)=_
   rw[upd_ne _ _ (fun e=>by rw[e,hO]at q3;cases q3;exact hj rfl)]
   exact q3
 ·intro j l hl
  obtain⟨hj,l0,h0,rfl⟩:=bP0 hl;exact V.okL.frz hB hcs l0 (inv.wfB j l0 h0)
 ·intro k en hk
  exact(inv.arr k en hk).keep hkp (inv.wfA k en hk) rfl (fun b hb=>⟨by
   show upd G.O _ _ b=_;rw[upd_ne _ _ (fun e=>by rw[e,hO]at hb;cases hb)];exact hb,rfl⟩)
 ·intro b hb
  rcases hO' b with h|⟨h,_⟩
  ·exact inv.tag b (by rw[<-h];exact hb)
  ·subst h;exact inv.tag _ FO
 ·intro b j hb
  rcases hO' b with h|⟨_,h⟩
  ·exact inv.mineB b j (h▸hb)
  ·have hb':upd G.O (G.β i) Tag.fz b= .bx j:=hb
   rw[h]at hb';cases hb'
 ·intro b k hb
  rcases hO' b with h|⟨_,h⟩
  ·exact inv.mineA b k (h▸hb)
  ·have hb':upd G.O (G.β i) Tag.fz b= .ar k:=hb
   rw[h]at hb';cases hb'
 ·intro b hb
  rcases hO' b with h|⟨h,_⟩
  ·exact inv.fzm b (h▸hb)
  ·subst h;exact .inr (inv.mineB _ i hO)
 ·intro b hb
  exact hkp.fz b (inv.F0 b hb)
end
section
variable{T:Tab}{P:Program}{Φ:Fr}{σ:St}{a:Act}{w w':World}{G G':Gh}{K:VK}{o:Oper}{d:Nat}
theorem Inv.put'(ms:List Mod)(inv:Inv T Φ (σ.apps ms) a w G){dst:Option Nat}(hd:∀d,dst=some d->Φ.wr d){v':Value}{v:V}(hv:Rv w G v' v)(hok:v.ok (σ.apps ms).hasB (σ.apps ms).hasA):Inv T Φ (σ.put dst v ms) (a.put dst v') w G:=by
 cases dst with
 |none=>exact inv
 |some d=>exact inv.bA3 (hd d rfl) hv hok
theorem dX2{f:FuncId}{as:List Operand}{ts:Array TypeId}(ho:o.op= .call ⟨.value (.func f),⟨as⟩,ts⟩)(hc:callable P f=true):(execOp a.eval o).run P w= .ok (.enter f (as.map a.eval).toArray) w:=by
 unfold callable at hc;split at hc
 ·rename_i fn hfn
  simp only[Bool.and_eq_true,bne_iff_ne]at hc;have hb:fn.body≠none:=by intro h;rw[h]at hc;simp at hc
  simp[execOp,ho,resolve,Act.eval,Deferred.ofValue,invoke,callFunc,hfn,hb,hc.2]
 ·cases hc
theorem dO6{t g:Nat}{as:List Operand}{ts:Array TypeId}{fs lb:Array Value}(ho:o.op= .call ⟨.value (.tmp t),⟨as⟩,ts⟩)(ht:a.tmps.getD t undef= .func (.func g) fs lb)(hc:callable P g=true):(execOp a.eval o).run P w= .ok (.enter g (fs.toList++as.map a.eval++lb.toList).toArray) w:=by
 unfold callable at hc;split at hc
 ·rename_i fn hfn
  simp only[Bool.and_eq_true,bne_iff_ne]at hc;have hb:fn.body≠none:=by intro h;rw[h]at hc;simp at hc
  have ht':a.eval (.tmp t)= .func (.func g) fs lb:=ht;have e:(fs.toList++as.map a.eval++lb.toList).toArray=fs++(as.map a.eval).toArray++lb:=by apply Array.ext';simp
  rw[e];simp[execOp,ho,resolve,ht',Deferred.ofValue,invoke,callFunc,hfn,hb,hc.2]
 ·cases hc
theorem argsV_mem{caps xs:List V}{x:V}(h:x∈argsV caps xs):x∈caps\/x∈xs:=by
 unfold argsV at h;split at h
 ·rw[bT]at h
  rcases List.mem_append.1 h with h|h
  ·exact .inl (List.mem_cons_of_mem _ h)
  ·exact .inr h
 ·rw[bT]at h
  exact(List.mem_append.1 h).symm
theorem aX3(inv:Inv T Φ σ a w G){light:Md}{t g:Nat}{as:List Operand}{caps:List V}(hfn:σ.env t= .fn g caps)(hfc:isFnC caps=true)(h:kY T P light σ d g (argsV caps (as.map σ.ev)) K):
 ∃fs lb:Array Value,a.tmps.getD t undef= .func (.func g) fs lb/\callable P g=true/\Calls P g (fs.toList++as.map a.eval++lb.toList).toArray w fun e w'=>∃v',e= .returned v'/\∃v ms G',K v ms/\Inv T Φ (σ.apps ms) a w' G'/\Rv w' G' v' v/\v.ok (σ.apps ms).hasB (σ.apps ms).hasA:=by
 have he:=inv.env t;have hwf:=inv.wfE t
 rw[hfn]at he hwf
 have hev:∀(i:Nat) v x,(as.map a.eval)[i]? =some v->(as.map σ.ev)[i]? =some x->Rv w G v x/\x.ok σ.hasB σ.hasA:=by
  intro i v x hv hx;have hi:i<as.length:=by simpa using(List.getElem?_eq_some_iff.1 hv).1
  have q1:v=a.eval as[i] :=by simpa [hi]using hv.symm
  have q2:x=σ.ev as[i] :=by simpa [hi]using hx.symm
  rw[q1,q2];exact inv.ev as[i]
 obtain⟨fs,lb,e1,e2,e3⟩:=he.fn_args hfc (as.map a.eval) (as.map σ.ev) Ae (fun i v x hv hx=>(hev i v x hv hx).1);simp only[V.ok]at hwf;refine⟨fs,lb,e1,cP8 inv e2 (fun i v x hv hx=>⟨e3 i v x hv hx,?_⟩) h⟩;rcases argsV_mem (List.mem_of_getElem? hx)with hm|hm
 ·exact aH.1 hwf x hm
 ·obtain⟨y,_,rfl⟩:=List.mem_map.1 hm
  exact(inv.ev y).2
theorem eM3{t e:TypeId}(hu:P.underlying t=some (.slice e))(ad:Option Addr)(n cp:Nat):(binOp .eql t (.slice ad n cp) (.slice none 0 0)).run P w= .ok (.bool ad.isNone) w:=by
 simp only[binOp];simp[run_equal_slice_nil w t e ad n cp hu]
theorem eG0(hT:bP T P)(inv:Inv T Φ σ a w G)(o:Oper)(hd:∀d,o.dst=some d->Φ.wr d){light:Md}(h:bW T P light σ d o.op K){Q:Exit->Act->World->Prop}:
 o.wp P a w (fun a' w'=>∃v ms G',K v ms/\Inv T Φ (σ.put o.dst v ms) a' w' G') Q:=by
 unfold bW at h;split at h
 ·rename_i f as ts ho
  rw[bC,dU]at h;obtain⟨hc,hcalls⟩:=bF2 inv as h;unfold Oper.wp;rw[dX2 ho hc,Oper.upon_enter];refine hcalls.mono ?_;rintro e w1 ⟨v',rfl,v,ms,G',hk,inv',hv,hvo⟩;exact Nw
 ·rename_i t as ts ho
  split at h
  ·rename_i g caps hfn
   obtain⟨hfc,h⟩:=aT h;rw[bC,dU]at h;obtain⟨fs,lb,e1,hc,hcalls⟩:=aX3 inv hfn hfc h;unfold Oper.wp;rw[dO6 ho e1 hc,Oper.upon_enter];refine hcalls.mono ?_;rintro e w1 ⟨v',rfl,v,ms,G',hk,inv',hv,hvo⟩;exact⟨v,ms,G',hk,Inv.put' ms inv' hd hv hvo⟩
  ·exact h.elim
 ·rename_i t x lo hi mx ho
  have fin:∀ {K':VK} {ns:List Mod} {G1:Gh},Inv T Φ (σ.apps ns) a w G1->opVC T (σ.apps ns) d o.op K'->(∀v ms,K' v ms->K v (ns++ms))->o.wp P a w (fun a' w'=>∃v ms G',K v ms/\Inv T Φ (σ.put o.dst v ms) a' w' G') Q:=by
   intro K' ns G1 inv1 h1 hk1;obtain⟨v',w1,v,ms,G',hr,hk,inv',hv,hvo⟩:=xQ hT inv1 o h1;rw[<-dO]at inv' hvo;unfold Oper.wp;rcases hr with hr|⟨hr,rfl⟩
   ·rw[hr,Oper.upon_value]
    exact Ox
   ·rw[hr,Oper.upon_skip]
    exact Ox
  rw[<-ho]at h;split at h
  ·split at h
   ·rename_i gen ty l hen
    obtain⟨O',inv1,_,_⟩:=inv.freeze hen (.inl rfl);exact fin inv1 h (fun _ _ hk=>hk)
   ·rename_i gen ty l hen
    obtain⟨O',inv1,_,_⟩:=inv.freeze hen (.inr rfl);exact fin inv1 h (fun _ _ hk=>hk)
   ·exact fin (ns:=[]) inv h (fun _ _ hk=>hk)
  ·exact fin (ns:=[]) inv h (fun _ _ hk=>hk)
 ·rename_i bop t x c t' ho
  split at h
  ·rename_i l hx
   obtain⟨c0,ty,kd,hop,hout⟩:=h;subst c0
   have hu:∃e,P.underlying t=some (.slice e):=by
    obtain⟨dd,h1,h2,_⟩:=(hT t ty).und;rw[kd]at h2;cases dd<;>simp[kdOf]at h2;exact⟨_,h1⟩
   obtain⟨e,hu⟩:=hu;have hxv:=(inv.ev (.tmp x)).1;have hxe:σ.ev (.tmp x)= .sl l:=hx
   rw[hxe]at hxv
   have fin:∀(ad:Option Addr) (n cp:Nat),a.eval (.tmp x)= .slice ad n cp->(l≠ []->ad.isNone=false)->o.wp P a w (fun a' w'=>∃v ms G',K v ms/\Inv T Φ (σ.put o.dst v ms) a' w' G') Q:=by
    intro ad n cp he hl;have hk:=hout ad.isNone hl;unfold Oper.wp;rcases hop with rfl|rfl
    ·rw[yY (.tmp x) (.const (.slice none 0 0)) .eql t t' ho _ _ (.bool ad.isNone) he rfl (qZ _ _ _ _ _ _ Ae Ae) (eM3 hu ad n cp),Oper.upon_value]
     exact OA
    ·rw[yY (.tmp x) (.const (.slice none 0 0)) .neq t t' ho _ _ (.bool (!ad.isNone)) he rfl (qZ _ _ _ _ _ _ Ae Ae) (run_neq_slice_nil w t e ad n cp hu),Oper.upon_value]
     exact OA
   generalize hev:a.eval (.tmp x)=xv at hxv
   cases hxv with
   |slN=>exact fin none 0 0 hev (fun h=>absurd rfl h)
   |slS ad cp=>exact fin (some ad) _ cp hev (fun _=>rfl)
  ·rw[<-ho]at h
   obtain⟨v',w1,v,ms,G',hr,hk,inv',hv,hvo⟩:=xQ hT inv o h;unfold Oper.wp;rcases hr with hr|⟨hr,rfl⟩
   ·rw[hr,Oper.upon_value]
    exact⟨v,ms,G',hk,Inv.put' ms inv' hd hv hvo⟩
   ·rw[hr,Oper.upon_skip]
    exact⟨v,ms,G',hk,Inv.put' ms inv' hd hv hvo⟩
 ·obtain⟨v',w1,v,ms,G',hr,hk,inv',hv,hvo⟩:=xQ hT inv o h
  unfold Oper.wp;rcases hr with hr|⟨hr,rfl⟩
  ·rw[hr,Oper.upon_value]
   exact Nw
  ·rw[hr,Oper.upon_skip]
   exact Nw
theorem bD0{ro:Option Nat}{f:FuncId}{args:Array Value}{w:World}{R:Ending->World->Prop}:CallsIn (FW ro) 0 P f args w R↔Calls P f args w R:=callsIn_wide
theorem dR1{ro:Option Nat}{row:String}{args:Array Value}{w:World}{R:Value->World->Prop}(h:Rows P row args w R):RowsIn (FW ro) 0 P row args w R:=fun c cs _=>by
 obtain⟨v,w',r,s⟩:=h c cs;exact⟨v,w',r,(stepsIn_wide (P:=P)).2 s⟩
theorem dD1{ro:Option Nat}{o:Oper}(hd:∀c,o.op≠ .defer c){next:Act->World->Prop}{Q:Exit->Act->World->Prop}(h:o.wp P a w next Q):o.wpIn (FW ro) 0 P a w next Q:=by
 unfold Oper.wp at h;refine⟨fun _ _=>trivial,?_⟩;rw[Oper.semAt_eq _ _ _ hd];generalize (execOp a.eval o).run P w=r at h⊢
 cases r with
 |ok x w'=>
  cases x<;>simp only[Oper.upon,Oper.uponIn]at h⊢
  case value=>exact h
  case skip=>exact h
  case defer=>exact h
  case enter=>exact⟨fun hh=>Eb,bD0.2 h⟩
  case row=>exact⟨fun hh=>Eb,dR1 h⟩
 |halt x w'=>cases x<;>simp only[Oper.upon,Oper.uponIn]at h⊢<;>exact h
theorem eS3{light:Md}{op:Op}(h:bW T P light σ d op K):∀c,op≠ .defer c:=by
 rintro c rfl;exact(h:False).elim
theorem dF4(hT:bP T P)(inv:Inv T Φ σ a w G)(o:Oper)(hd:∀d,o.dst=some d->Φ.wr d){light:Md}(h:bW T P light σ d o.op K){Q:Exit->Act->World->Prop}(ro:Option Nat):
 o.wpIn (FW ro) 0 P a w (fun a' w'=>∃v ms G',K v ms/\Inv T Φ (σ.put o.dst v ms) a' w' G') Q:=dD1 (eS3 h) (eG0 hT inv o hd h)
theorem cM8(ms:List Mod):∀(σ:St) (K:(Nat->V)->(Nat->Option (List V))->(Nat->Option AE)->Prop),dZ7 ms σ.env σ.bx σ.ar K=K (σ.apps ms).env (σ.apps ms).bx (σ.apps ms).ar:=by
 induction ms with
 |nil=>intro σ K;rfl
 |cons m r ih=>
  intro σ K;have h1:σ.apps (m::r)=(m.app σ).apps r:=rfl;rw[h1,<-ih (m.app σ) K];cases m<;>rfl
def Step(T:Tab)(P:Program)(light:Md)(n:Nat)(ops:List Oper)(o:Oper)(σ:St)(K:St->Prop):Prop:=
 match o.guard with
 |none=>((∀d,o.dst=some d->d<n)/\bW T P light σ (o.dst.getD n) o.op fun v ms=>K (σ.put o.dst v ms))\/
  (light= .free/\∃d g c cs,o.dst=some d/\d<n/\o.op= .makeFunc (.func g) ⟨[]⟩ ⟨c::cs⟩/\zX (T.ref g) σ.ar (c::cs) σ.env σ.bx fun env bx caps=>K ⟨upd env d (.fn g caps),bx,σ.ar⟩)\/
  (light= .free/\∃σ1,Le T σ σ1/\(∀d,o.dst=some d->d<n)/\bW T P light σ1 (o.dst.getD n) o.op fun v ms=>K (σ1.put o.dst v ms))
 |some (j,want)=>∃s,tV ops j=some s/\(∀d,o.dst=some d->d<n)/\
  ((∃b,σ.env s= .lit (.bool b)/\if b=want then bW T P light σ (o.dst.getD n) o.op fun v ms=>K (σ.put o.dst v ms)else K (σ.put o.dst (.tup []) []))\/(∃cs,σ.env s= .tup cs/\K (σ.put o.dst (.tup []) [])))
theorem qK{light:Md}{n:Nat}{dst:Option Nat}{op:Op}{ih:OpsK}{K:St->Prop}(h:aV2 T P light n dst op ih σ.env σ.bx σ.ar K):
 (∀d,dst=some d->d<n)/\bW T P light σ (dst.getD n) op fun v ms=>ih (σ.put dst v ms).env (σ.put dst v ms).bx (σ.put dst v ms).ar K:=by
 unfold aV2 at h
 cases dst with
 |none=>
  refine⟨(fun _ h=>Ag),?_⟩;have h':=h
  simp only[cM8 _ σ]at h';exact h'
 |some d=>
  obtain⟨hd,h2⟩:=aT h;refine⟨(fun d' h=>by cases h;exact blt hd),?_⟩
  simp only[cM8 _ σ]at h2;exact h2
theorem aD8{n:Nat}{dst:Option Nat}{ih:OpsK}{K:St->Prop}(h:bF6 n dst ih σ.env σ.bx σ.ar K):
 (∀d,dst=some d->d<n)/\ih (σ.put dst (.tup []) []).env (σ.put dst (.tup []) []).bx (σ.put dst (.tup []) []).ar K:=by
 unfold bF6 at h
 cases dst with
 |none=>exact⟨(fun _ h=>Ag),h⟩
 |some d=>
  obtain⟨hd,h2⟩:=aT h;exact⟨(fun d' h=>by cases h;exact blt hd),h2⟩
theorem cJ2{α:Type}(f:Nat->α)(s:Nat)(x:α)(h:f s=x):upd f s x=f:=by
 funext t;by_cases e:t=s
 ·subst e;rw[upd_same];exact h.symm
 ·exact upd_ne f x e
theorem aX6{light:Md}{n:Nat}{ops:List Oper}{ih:OpsK}{K:St->Prop}(h:bH0 T P light n ops o ih σ.env σ.bx σ.ar K):
 Step T P light n ops o σ fun σ'=>ih σ'.env σ'.bx σ'.ar K:=by
 unfold bH0 at h;obtain⟨dst,op,ty,pos,after,guard⟩:=o;unfold Step;simp only at h⊢
 cases guard with
 |none=>
  have h0:dB2 T P light n dst op ih σ.env σ.bx σ.ar K:=h;unfold dB2 at h0;split at h0
  ·rename_i g c cs
   split at h0
   ·rename_i d
    obtain⟨hd,h2⟩:=aT h0;exact .inr (.inl ⟨rfl,d,g,c,cs,rfl,blt hd,rfl,h2⟩)
   ·exact h0.elim
  ·rename_i t m ps
   split at h0
   ·cases hc:allR (fun p:Nat×Operand=>allR V.atom (St.ev ⟨σ.env,σ.bx,σ.ar⟩ p.2).cells) ps.toList with
    |true=>rw[hc]at h0;exact .inl (qK h0)
    |false=>
     rw[hc]at h0;obtain⟨σ1,hle,h1⟩:=cR5.out h0;obtain⟨q1,q2⟩:=qK h1;exact .inr (.inr ⟨rfl,σ1,hle,q1,q2⟩)
   ·exact .inl (qK h0)
  ·exact .inl (qK h0)
 |some g=>
  obtain⟨j,want⟩:=g;simp only at h⊢;split at h
  ·rename_i s hs
   refine⟨s,hs,?_⟩;split at h
   ·rename_i b hb
    cases b with
    |true=>
     rw[show upd σ.env s (B true)=σ.env from cJ2 _ _ _ hb]at h
     cases want with
     |true=>
      obtain⟨h1,h2⟩:=qK (σ:=σ) h;exact⟨h1, .inl ⟨true,hb,FC⟩⟩
     |false=>
      obtain⟨h1,h2⟩:=aD8 (σ:=σ) h;exact⟨h1, .inl ⟨true,hb,FC⟩⟩
    |false=>
     rw[show upd σ.env s (B false)=σ.env from cJ2 _ _ _ hb]at h
     cases want with
     |true=>
      obtain⟨h1,h2⟩:=aD8 (σ:=σ) h;exact⟨h1, .inl ⟨false,hb,FC⟩⟩
     |false=>
      obtain⟨h1,h2⟩:=qK (σ:=σ) h;exact⟨h1, .inl ⟨false,hb,FC⟩⟩
   ·rename_i cs hb
    obtain⟨h1,h2⟩:=aD8 (σ:=σ) h;exact⟨h1, .inr ⟨cs,hb,h2⟩⟩
   ·exact h.elim
  ·exact h.elim
def Run(T:Tab)(P:Program)(light:Md)(n:Nat)(ops:List Oper):List Oper->St->(St->Prop)->Prop
 | [],σ,K=>K σ
 |o::r,σ,K=>Step T P light n ops o σ fun σ'=>Run T P light n ops r σ' K
theorem aJ6(rf:Bool)(ar:Nat->Option AE)(c:Operand)(r:List Operand)(env:Nat->V)(bx:Nat->Option (List V))(K:(Nat->V)->(Nat->Option (List V))->List V->Prop):zX rf ar (c::r) env bx K=(match St.ev ⟨env,bx,ar⟩ c with
 | .box i off=>match off,bx i with
   |0,some cells=>match rf with
    |true=>zX rf ar r env bx fun env bx caps=>K env bx (.box i 0::caps)
    |false=>bJ cells fun cells=>cond (allR V.atom cells&&Nat.blt i 100000) (zX rf ar r (fun s=>(env s).frz i cells) (frzB i cells bx) fun env bx caps=>K env bx (.fp cells::caps)) False
   |_,_=>False
 | .fp cs=>zX rf ar r env bx fun env bx caps=>K env bx (.fp cs::caps)
 |_=>False):=rfl
theorem dS4{rf:Bool}{ar:Nat->Option AE}{xs:List Operand}:∀ {env:Nat->V} {bx:Nat->Option (List V)} {K K':(Nat->V)->(Nat->Option (List V))->List V->Prop},(∀env bx caps,K env bx caps->K' env bx caps)->zX rf ar xs env bx K->zX rf ar xs env bx K':=by
 induction xs with
 |nil=>intro env bx K K' hk h;exact hk _ _ _ h
 |cons c r ih=>
  intro env bx K K' hk h;rw[aJ6]at h⊢;split at h
  ·rename_i i off hev
   split at h
   ·rename_i cells hb
    cases rf with
    |true=>exact ih (fun env bx caps=>hk _ _ _) h
    |false=>
     simp only at h⊢;rw[bC]at h;obtain⟨ha,h2⟩:=aT h;rw[bC,ha,cond_true];exact ih (fun env bx caps=>hk _ _ _) h2
   ·exact h.elim
  ·exact ih (fun env bx caps=>hk _ _ _) h
  ·exact h.elim
theorem dB3{x:V}{p:Nat->Prop}{q:Nat->Nat->Prop}(h:x.atom=true)(hok:x.ok p q):x.pure:=I7
theorem eI4{xs:List Operand}:∀ {σ:St} {G:Gh} {K:(Nat->V)->(Nat->Option (List V))->List V->Prop},Inv T Φ σ a w G->zX false σ.ar xs σ.env σ.bx K->
 ∃env bx caps G',K env bx caps/\Inv T Φ ⟨env,bx,σ.ar⟩ a w G'/\Keep w w G G'/\caps.length=xs.length/\bM caps/\∀(i:Nat) c x,xs[i]? =some c->caps[i]? =some x->Rv w G' (a.eval c) x:=by
 induction xs with
 |nil=>intro σ G K inv h;exact⟨σ.env,σ.bx,[],G,h,inv,Keep.refl w G,rfl,BD,fun i c x hc=>Gs⟩
 |cons c r ih=>
  intro σ G K inv h;rw[aJ6]at h;have hev:St.ev ⟨σ.env,σ.bx,σ.ar⟩ c=σ.ev c:=rfl;obtain⟨hv,hok⟩:=inv.ev c
  have fin:∀ {caps:List V} {G1 G':Gh} {x0:V},Keep w w G1 G'->Rv w G1 (a.eval c) x0->x0.pure->(∀(i:Nat) c x,r[i]? =some c->caps[i]? =some x->Rv w G' (a.eval c) x)->∀(i:Nat) c' x,(c::r)[i]? =some c'->(x0::caps)[i]? =some x->Rv w G' (a.eval c') x:=by
   intro caps G1 G' x0 hk h0 hp hr i c' x hc hx
   cases i with
   |zero=>simp at hc hx;subst hc;subst hx;exact h0.aW hk hp
   |succ i=>exact hr i c' x BZ F6
  split at h
  ·rename_i i off hb0
   split at h
   ·rename_i cells hb
    simp only at h;rw[bC]at h;obtain⟨ha,h2⟩:=aT h;rw[Bool.and_eq_true]at ha;have hcs:bM cells:=aH.2 fun x hx=>dB3 (dY.1 ha.1 x hx) (aH.1 (inv.wfB i cells hb) x hx);obtain⟨inv1,hk1⟩:=inv.bV0 hb (blt ha.2) hcs;obtain⟨env,bx,caps,G',q1,q2,q3,q4,q5,q6⟩:=ih (σ:=⟨fun s=>(σ.env s).frz i cells,frzB i cells σ.bx,σ.ar⟩) inv1 h2;obtain⟨cc,tt,w1,w2,w3⟩:=inv.box i cells hb
    have hfp:Rv w {G with O:=upd G.O (G.β i) .fz} (a.eval c) (.fp cells):=by
     have hbx:σ.ev c= .box i 0:=hb0;have:=hv.frz w1 w2 hcs w3 hok
     rw[hbx,zG,List.drop_zero]at this;exact this
    have hfpp:(V.fp cells).pure:=by simp only[V.pure,V.ok];exact hcs
    exact⟨env,bx,_,G',q1,q2,⟨fun b hb=>q3.fz b (hk1.fz b hb),fun _ _=>rfl⟩,by simp[q4],FT,fin q3 hfp hfpp q6⟩
   ·exact h.elim
  ·rename_i cs hb0
   obtain⟨env,bx,caps,G',q1,q2,q3,q4,q5,q6⟩:=ih (σ:=σ) inv h;have hbx:σ.ev c= .fp cs:=hb0;rw[hbx]at hv hok;have hfpp:(V.fp cs).pure:=AP
   exact⟨env,bx,_,G',q1,q2,q3,by simp[q4],FT,fin q3 hv hfpp q6⟩
  ·exact h.elim
theorem eF6{xs:List Operand}(inv:Inv T Φ σ a w G):∀ {K:(Nat->V)->(Nat->Option (List V))->List V->Prop},zX true σ.ar xs σ.env σ.bx K->
 ∃caps,K σ.env σ.bx caps/\caps.length=xs.length/\V.okL σ.hasB σ.hasA caps/\∀(i:Nat) c x,xs[i]? =some c->caps[i]? =some x->Rv w G (a.eval c) x:=by
 induction xs with
 |nil=>intro K h;exact⟨[],h,rfl,BD,fun i c x hc=>Gs⟩
 |cons c r ih=>
  intro K h;rw[aJ6]at h;obtain⟨hv,hok⟩:=inv.ev c
  have fin:∀(x0:V),σ.ev c=x0->(zX true σ.ar r σ.env σ.bx fun env bx caps=>K env bx (x0::caps))->∃caps,K σ.env σ.bx caps/\caps.length=(c::r).length/\V.okL σ.hasB σ.hasA caps/\∀(i:Nat) c' x,(c::r)[i]? =some c'->caps[i]? =some x->Rv w G (a.eval c') x:=by
   intro x0 he h;obtain⟨caps,q1,q2,q3,q4⟩:=ih h;rw[he]at hv hok;refine⟨x0::caps,q1,by simp[q2],by simp only[V.okL];exact⟨hok,q3⟩,fun i c' x hc hx=>?_⟩
   cases i with
   |zero=>simp at hc hx;subst hc;subst hx;exact hv
   |succ i=>exact q4 i c' x BZ F6
  split at h
  ·rename_i i off hb0
   split at h
   ·exact fin _ hb0 h
   ·exact h.elim
  ·rename_i cs hb0
   exact fin _ hb0 h
  ·exact h.elim
theorem dA6{rf:Bool}{xs:List Operand}{K:(Nat->V)->(Nat->Option (List V))->List V->Prop}(inv:Inv T Φ σ a w G)(h:zX rf σ.ar xs σ.env σ.bx K):
 ∃env bx caps G',K env bx caps/\Inv T Φ ⟨env,bx,σ.ar⟩ a w G'/\caps.length=xs.length/\V.okL (St.hasB ⟨env,bx,σ.ar⟩) (St.hasA ⟨env,bx,σ.ar⟩) caps/\∀(i:Nat) c x,xs[i]? =some c->caps[i]? =some x->Rv w G' (a.eval c) x:=by
 cases rf with
 |true=>
  obtain⟨caps,q1,q2,q3,q4⟩:=eF6 inv h;exact⟨σ.env,σ.bx,caps,G,q1,inv,q2,q3,q4⟩
 |false=>
  obtain⟨env,bx,caps,G',q1,q2,q3,q4,q5,q6⟩:=eI4 inv h;exact⟨env,bx,caps,G',q1,q2,q4,aH.2 fun x hx=>V.pure.ok (aH.1 q5 x hx) _ _,q6⟩
theorem Step.mono{light:Md}{n:Nat}{ops:List Oper}{K K':St->Prop}(hm:∀(σ:St) (K1 K2:VK),(∀v ms,K1 v ms->K2 v ms)->bW T P light σ (o.dst.getD n) o.op K1->bW T P light σ (o.dst.getD n) o.op K2)(h:Step T P light n ops o σ K)(hk:∀σ',K σ'->K' σ'):Step T P light n ops o σ K':=by
 unfold Step at*;split at h
 ·rcases h with h|⟨h0,d,g,c,cs,h1,h2,h3,h4⟩|⟨h0,σ1,h1,h2,h3⟩
  ·exact .inl ⟨h.1,hm _ _ _ (fun v ms=>hk _) h.2⟩
  ·exact .inr (.inl ⟨h0,d,g,c,cs,h1,h2,h3,dS4 (fun env bx caps=>hk _) h4⟩)
  ·exact .inr (.inr ⟨h0,σ1,h1,h2,hm _ _ _ (fun v ms=>hk _) h3⟩)
 ·obtain⟨s,h1,h2,h3⟩:=h
  refine⟨s,h1,h2,?_⟩;rcases h3 with⟨b,q1,q2⟩|⟨cs,q1,q2⟩
  ·refine .inl ⟨b,q1,?_⟩
   split at q2
   ·rename_i hb;rw[if_pos hb];exact hm _ _ _ (fun v ms=>hk _) q2
   ·rename_i hb;rw[if_neg hb];exact hk _ q2
  ·exact .inr ⟨cs,q1,hk _ q2⟩
theorem xK(w:World)(G:Gh):Rv w G undef (.tup []):= .tup #[] [] rfl (fun i c x hc=>Gs)
theorem bZ3(hT:bP T P)(inv:Inv T Φ σ a w G){light:Md}{ops:List Oper}{K:St->Prop}{opsA:Array Oper}(hA:opsA.toList=ops)(hkp:∀d,o.dst=some d->Φ.keep d=none)(h:Step T P light Φ.n ops o σ K){Q:Exit->Act->World->Prop}(ro:Option Nat):
 if Region.wanted o (yielded opsA a.tmps)=true then o.wpIn (FW ro) 0 P a w (fun a' w'=>∃σ' G',K σ'/\Inv T Φ σ' a' w' G') Q else∃G',∃σ',K σ'/\Inv T Φ σ' (a.put o.dst undef) w G':=by
 unfold Step at h
 have run:(∀d,o.dst=some d->d<Φ.n)->(bW T P light σ (o.dst.getD Φ.n) o.op fun v ms=>K (σ.put o.dst v ms))->o.wpIn (FW ro) 0 P a w (fun a' w'=>∃σ' G',K σ'/\Inv T Φ σ' a' w' G') Q:=by
  intro hd hop;refine Oper.wpIn_mono ?_ (dF4 hT inv o (fun d h=>⟨hd d h,hkp d h⟩) hop (Q:=Q) ro);rintro a' w' ⟨v,ms,G',hk,inv'⟩;exact⟨_,G',hk,inv'⟩
 have skip:(∀d,o.dst=some d->d<Φ.n)->K (σ.put o.dst (.tup []) [])->∃G',∃σ',K σ'/\Inv T Φ σ' (a.put o.dst undef) w G':=by
  intro hd hk;refine⟨G,_,hk,?_⟩;exact Inv.put' [] inv (fun d h=>⟨hd d h,hkp d h⟩) (xK w G) Dz
 split at h
 ·rename_i hg
  rw[if_pos BM];rcases h with h|⟨_,d,g,c,cs,h1,h2,h3,h4⟩|⟨_,σ1,h1,h2,h3⟩
  ·exact run h.1 h.2
  rotate_left
  ·unfold Le at h1
   obtain⟨G1,inv1⟩:=h1 Φ a w G inv;refine Oper.wpIn_mono ?_ (dF4 hT inv1 o (fun d h=>⟨h2 d h,hkp d h⟩) h3 (Q:=Q) ro);rintro a' w' ⟨v,ms,G',hk,inv'⟩;exact⟨_,G',hk,inv'⟩
  ·obtain⟨env,bx,caps,G',q1,q2,q4,q5,q6⟩:=dA6 inv h4
   have hr:(execOp a.eval o).run P w= .ok (.value (.func (.func g) #[] ((c::cs).map a.eval).toArray)) w:=by
    simp[execOp,h3,Instr.makeFunc]
   refine dD1 (fun c=>by rw[h3];exact fun h=>by cases h) ?_
   unfold Oper.wp;rw[hr,Oper.upon_value];refine⟨_,G',q1,?_⟩;rw[h1];refine Inv.bA3 (σ:=⟨env,bx,σ.ar⟩) q2 ⟨h2,hkp d h1⟩ ?_ (by simp only[V.ok];exact q5)
   refine .fn g _ caps (by simp[q4]) (fun i u x hu hx=>?_)
   have hi:i< (c::cs).length:=by rw[<-q4];exact(List.getElem?_eq_some_iff.1 hx).1
   have hu':u=a.eval (c::cs)[i] :=by
    have h5:((c::cs).map a.eval)[i]? =some u:=by rw[<-hu];exact(List.getElem?_toArray ..).symm
    rw[List.getElem?_map,List.getElem?_eq_getElem hi]at h5;exact(Option.some.inj h5).symm
   rw[hu'];exact q6 i _ x (List.getElem?_eq_getElem hi) hx
 ·rename_i j want hg
  obtain⟨s,h1,h2,h3⟩:=h
  have hslot:(opsA[j]?).bind (·.dst)=some s:=by
   unfold tV at h1;rw[uN,<-hA]at h1;simpa using h1
  have hw:Region.wanted o (yielded opsA a.tmps)=(yielded opsA a.tmps j==some want):=BM;have he:=inv.env s
  rcases h3 with⟨b,q1,q2⟩|⟨cs,q1,q2⟩
  ·rw[q1]at he
   have hv:=he.bH
   have hs:a.tmps[s]? =some (.bool b):=by
    cases h:a.tmps[s]? with
    |none=>simp[h,undef]at hv
    |some u=>simp[h]at hv;rw[hv]
   have hy:yielded opsA a.tmps j=some b:=by simp[yielded,hslot,hs]
   rw[hw,hy];by_cases hb:b=want
   ·subst hb
    simp only[if_true]at q2;rw[if_pos Ae];exact run h2 q2
   ·rw[if_neg hb]at q2
    rw[if_neg CO];exact skip h2 q2
  ·rw[q1]at he
   obtain⟨vs,hv,_⟩:=he.eP1
   have hy:yielded opsA a.tmps j=none:=by
    simp only[yielded,hslot,Option.bind_some]
    cases h:a.tmps[s]? with
    |none=>rfl
    |some u=>
     simp[h]at hv;rw[hv]
   rw[hw,hy,if_neg Ae];exact skip h2 q2
theorem eB0(hT:bP T P){light:Md}{ops:List Oper}{K:St->Prop}{opsA:Array Oper}(hA:opsA.toList=ops){Q:Exit->Act->World->Prop}(ro:Option Nat)(hQ:∀σ' a' w' G',K σ'->Inv T Φ σ' a' w' G'->Q .normal a' w'):
 ∀(l:List Oper) (σ:St) (a:Act) (w:World) (G:Gh),(∀o∈l,∀d,o.dst=some d->Φ.keep d=none)->Inv T Φ σ a w G->Run T P light Φ.n ops l σ K->wpListIn (FW ro) 0 P opsA Q l a w:=by
 intro l
 induction l with
 |nil=>intro σ a w G _ inv h;exact hQ σ a w G h inv
 |cons o r ih=>
  intro σ a w G hkp inv h;have:=bZ3 hT inv hA (o:=o) (hkp o Ae) h (Q:=Q) ro;unfold wpListIn;split
  ·rename_i hw
   rw[if_pos hw]at this;exact Oper.wpIn_mono (fun a' w' ⟨σ',G',hk,inv'⟩=>ih σ' a' w' G' (fun o ho=>hkp o (by simp[ho])) inv' hk) this
  ·rename_i hw
   rw[if_neg hw]at this;obtain⟨G',σ',hk,inv'⟩:=this;exact⟨fun _ _=>trivial,ih σ' _ w G' (fun o ho=>hkp o (by simp[ho])) inv' hk⟩
end
end Go.Ab
