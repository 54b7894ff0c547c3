/-
  Regions that draw their order.
-/
import Derived.Test.YtdjgbagnajikeaaGreatDoorA11
import Derived.RangeFuncIn
set_option linter.unusedVariables false
set_option linter.unusedSimpArgs false
noncomputable section
namespace Go.Ab
def Real(T:Tab)(Φ:Fr)(σ:St):Prop:=∃a w G,Inv T Φ σ a w G
section
variable{T:Tab}{P:Program}{Φ:Fr}{σ:St}{a:Act}{w w':World}{G G':Gh}{o:Oper}{d:Nat}{v:V}{ms:List Mod}{ops:List Oper}{K:St->Prop}{hv:List (Nat×List Nat)}
theorem Real.wf(h:Real T Φ σ)(x:Operand):(σ.ev x).ok σ.hasB σ.hasA:=by
 obtain⟨a,w,G,inv⟩:=h;exact(inv.ev x).2
theorem bW2(hT:bP T P)(hr:Real T Φ σ)(hd:∀d,o.dst=some d->Φ.wr d)(h:bW T P (.drawn hv) σ d o.op (Is v ms)):Real T Φ (σ.put o.dst v ms):=by
 obtain⟨a,w,G,inv⟩:=hr;unfold bW at h;split at h
 ·rename_i f as ts ho
  rw[bC,dU]at h;obtain⟨hc,hcalls⟩:=bF2 inv as h;exact Nh
 ·split at h
  ·rename_i g caps hfn
   obtain⟨hfc,h⟩:=aT h;rw[bC,dU]at h;obtain⟨fs,lb,e1,hc,hcalls⟩:=aX3 inv hfn hfc h;exact Nh
  ·exact h.elim
 ·rename_i t x lo hi mx ho
  exact LW
 ·rename_i bop t x c t' ho
  exact LW
 ·obtain⟨v',w1,v1,ms1,G',hr,⟨rfl,rfl⟩,inv',hv,hvo⟩:=xQ hT inv o h
  exact⟨_,_,_,Inv.put' _ inv' hd hv hvo⟩
theorem dY4(hT:bP T P)(hr:Real T Φ σ)(hkp:∀d,o.dst=some d->Φ.keep d=none)(h:Eff T P hv Φ.n ops o σ v ms):Real T Φ (σ.put o.dst v ms):=by
 unfold Eff at h;obtain⟨h0,h2⟩:=h;have h1:∀d,o.dst=some d->Φ.wr d:=fun d h=>⟨h0 d h,hkp d h⟩;split at h2
 ·exact bW2 hT hr h1 h2
 ·obtain⟨s,q1,q2⟩:=h2
  rcases q2 with⟨q2,q3⟩|⟨q2,rfl,rfl⟩
  ·exact bW2 hT hr h1 q3
  ·obtain⟨a,w,G,inv⟩:=hr
   exact⟨_,_,_,Inv.put' [] inv h1 (xK w G) Dz⟩
def RunI(T:Tab)(P:Program)(hv:List (Nat×List Nat))(n:Nat)(ops:List Oper):List Nat->St->(St->Prop)->Prop
 | [],σ,K=>K σ
 |i::r,σ,K=>∃o v ms,ops[i]? =some o/\Eff T P hv n ops o σ v ms/\RunI T P hv n ops r (σ.put o.dst v ms) K
def Compat(cl:List (Nat×Nat))(hv:List (Nat×List Nat))(ops:List Oper)(j i:Nat):Prop:=∀p o,ops[j]? =some p->ops[i]? =some o->Oper.apart ops.toArray p o=true/\(clash (clsH hv p) (clsH hv o)=false\/((aM7 cl p.op o.op=true\/fL7 cl p.op o.op=true\/fY1 p.op o.op=true)/\hvO hv p=false/\hvO hv o=false)\/dJ2 cl hv p o=true)
theorem front(hT:bP T P)(hkp:∀o∈ops,∀d,o.dst=some d->Φ.keep d=none){cl:List (Nat×Nat)}(hcl:∀o∈ops,aL7 T cl o=true){i:Nat}{l2:List Nat}:∀(l1:List Nat) (σ:St),Real T Φ σ->Good cl σ->(∀j∈l1,Compat cl hv ops j i)->RunI T P hv Φ.n ops (l1++i::l2) σ K->
 ∃o v ms,ops[i]? =some o/\Eff T P hv Φ.n ops o σ v ms/\RunI T P hv Φ.n ops (l1++l2) (σ.put o.dst v ms) K:=by
 intro l1
 induction l1 with
 |nil=>intro σ _ _ _ h;exact h
 |cons j r ih=>
  intro σ hr hg hc h;obtain⟨p,v,ms,hp,he,h⟩:=h;obtain⟨o,v',ms',ho,he',h⟩:=ih _ (dY4 hT hr (hkp p (List.mem_of_getElem? hp)) he) (cG5 hr.wf hg (hcl p (List.mem_of_getElem? hp)) he) (fun k hk=>hc k (by simp[hk])) h
  obtain⟨c1,c2⟩:=hc j Ae p o hp ho
  obtain⟨s1,s2,s3⟩:Eff T P hv Φ.n ops o σ v' ms'/\Eff T P hv Φ.n ops p (σ.put o.dst v' ms') v ms/\(σ.put p.dst v ms).put o.dst v' ms'=(σ.put o.dst v' ms').put p.dst v ms:=by
   rcases c2 with c2|⟨c2,c3,c4⟩|c2
   ·exact swap hr.wf c1 c2 he he'
   ·rcases c2 with c2|c2|c2
    ·exact dL0 c3 c4 hr.wf hg c1 c2 he he'
    ·exact gE0 c3 c4 hr.wf (dY4 hT hr (hkp p (List.mem_of_getElem? hp)) he).wf hg c1 c2 he he'
    ·exact gJ0 c3 c4 hr.wf c1 c2 he he'
   ·unfold dJ2 at c2
    rw[Bool.or_eq_true,Bool.or_eq_true,Bool.or_eq_true]at c2;rcases c2 with(c2|c2)|(c2|c2)
    rotate_left 2
    ·exact eR7 hr.wf c1 c2 he he'
    ·exact eO9 hr.wf c1 c2 he he'
    ·split at c2
     ·rename_i bl hbl
      exact eM0 hr.wf hg c1 hbl c2 he he'
     ·cases c2
    ·split at c2
     ·rename_i bl hbl
      exact eS5 hr.wf hg c1 hbl c2 he he'
     ·cases c2
  refine⟨o,v',ms',ho,s1,p,v,ms,hp,s2,?_⟩;rw[<-s3];exact h
theorem eA9(K:St->Prop):∀(l:List Oper) (k:Nat) (σ:St),(∀j,l[j]? =ops[k+j]?)->Run T P (.drawn hv) Φ.n ops l σ K->RunI T P hv Φ.n ops (List.range' k l.length) σ K:=by
 intro l
 induction l with
 |nil=>intro k σ _ h;exact h
 |cons o r ih=>
  intro k σ hl h;obtain⟨v,ms,he,h⟩:=eI5 h;have h0:=hl 0;simp only[List.getElem?_cons_zero,Nat.add_zero]at h0;refine⟨o,v,ms,h0.symm,he,?_⟩;refine ih (k+1) _ (fun j=>?_) h;have:=hl (j+1)
  simp only[List.getElem?_cons_succ]at this;rw[this];congr 1;omega
theorem bL5{ms:List Nat}{o:Oper}{j:Nat}(h:(bW4 ms o).testBit j=true):∃e∈o.after,Region.binds .any e=true/\(j=e.on\/(ms.getD e.on 0).testBit j=true):=by
 unfold bW4 at h;rw[<-Array.foldl_toList]at h
 have gen:∀(l:List Edge) (m:Nat),(l.foldl (fun m e=>if Region.binds .any e then m|||2^e.on|||ms.getD e.on 0 else m) m).testBit j=true->m.testBit j=true\/∃e∈l,Region.binds .any e=true/\(j=e.on\/(ms.getD e.on 0).testBit j=true):=by
  intro l
  induction l with
  |nil=>intro m h;exact .inl h
  |cons e r ih=>
   intro m h;rw[List.foldl_cons]at h;rcases ih _ h with h|⟨e',he',h⟩
   ·split at h
    ·rename_i hb
     rw[Nat.testBit_or,Nat.testBit_or,Bool.or_eq_true,Bool.or_eq_true]at h;rcases h with(h|h)|h
     ·exact .inl h
     ·rw[Nat.testBit_two_pow]at h
      exact .inr ⟨e,Ae,hb, .inl (of_decide_eq_true h).symm⟩
     ·exact .inr ⟨e,Ae,hb, .inr h⟩
    ·exact .inl h
   ·exact .inr ⟨e',by simp[he'],h⟩
 rcases gen _ _ h with h|⟨e,he,h⟩
 ·simp at h
 ·exact⟨e,Array.mem_toList_iff.1 he,h⟩
theorem cI3{L R:Nat->Prop}(hc:∀i o,ops[i]? =some o->R i->∀e∈o.after,Region.binds .any e=true->L e.on)(hLR:∀i,L i->R i):
 ∀(l pre:List Oper) (ms:List Nat),ops=pre++l->ms.length=pre.length->(∀k j,R k->(ms.getD k 0).testBit j=true->L j)->
  ∀k j,R k->((l.foldl (fun ms o=>ms++[bW4 ms o]) ms).getD k 0).testBit j=true->L j:=by
 intro l
 induction l with
 |nil=>intro pre ms _ _ h;exact h
 |cons o r ih=>
  intro pre ms hops hlen h;rw[List.foldl_cons];refine ih (pre++[o]) _ (by simp[hops]) (by simp[hlen]) ?_
  intro k j hk hb;by_cases e:k=ms.length
  ·subst e
   simp at hb;obtain⟨e,he,hbi,hor⟩:=bL5 hb;have hL:=hc ms.length o (by rw[hops,hlen];simp) hk e he hbi
   rcases hor with rfl|hor
   ·exact hL
   ·exact h e.on j (hLR _ hL) hor
  ·refine h k j hk ?_
   rcases Nat.lt_or_ge k ms.length with hlt|hge
   ·rw[List.getD_eq_getElem?_getD,List.getElem?_append_left hlt]at hb;rw[List.getD_eq_getElem?_getD];exact hb
   ·rw[List.getD_eq_getElem?_getD,List.getElem?_eq_none A8]at hb;simp at hb
theorem qX{cl:List (Nat×Nat)}(h:oO T cl hv ops=true):(∀o∈ops,aL7 T cl o=true)/\∀(k:Nat) (o:Oper),ops[k]? =some o->(∀e∈o.after,Region.binds .any e=true->e.on<k)/\
 ∀(i:Nat) (p:Oper),i<k->ops[i]? =some p->((masks ops).getD k 0).testBit i=true\/(Oper.apart ops.toArray p o=true/\(clash (clsH hv p) (clsH hv o)=false\/((aM7 cl p.op o.op=true\/fL7 cl p.op o.op=true\/fY1 p.op o.op=true)/\hvO hv p=false/\hvO hv o=false)\/dJ2 cl hv p o=true)):=by
 unfold oO at h;simp only[List.all_eq_true,Bool.and_eq_true]at h;refine⟨h.1,?_⟩;intro k o hk;have h1:=h.2 (o,k) (List.mem_zipIdx_iff_getElem?.2 hk);simp only[Bool.and_eq_true,List.all_eq_true,Array.all_eq_true_iff_forall_mem]at h1;refine⟨fun e he hb=>?_,fun i p hi hp=>?_⟩
 ·have:=h1.1.1 e he
  simp[hb]at this;exact this
 ·have:=h1.2 (p,i) (List.mem_zipIdx_iff_getElem?.2 (by rw[List.getElem?_take_of_lt hi];exact hp))
  simp only[Bool.or_eq_true,Bool.and_eq_true,Bool.not_eq_true']at this;rcases this with h|h
  ·exact .inl h
  ·refine .inr ⟨h.1.1,?_⟩
   rcases h.2 with(h|h)|h
   ·exact .inl h
   ·exact .inr (.inl ⟨or_assoc.1 h.1.1,h.1.2,h.2⟩)
   ·exact .inr (.inr h)
def rem(n:Nat)(listed:Array Bool):List Nat:=(List.range n).filter fun i=> !listed.getD i true
theorem aF4{n:Nat}{listed:Array Bool}{i:Nat}:i∈rem n listed↔i<n/\listed.getD i true=false:=by
 simp[rem]
theorem cI0{listed:Array Bool}{i j:Nat}{b:Bool}(hi:i<listed.size):(listed.setIfInBounds i true).getD j b=if j=i then true else listed.getD j b:=by
 rw[Array.getD_eq_getD_getElem?,Array.getD_eq_getD_getElem?,Array.getElem?_setIfInBounds];by_cases e:i=j
 ·subst e;simp[hi]
 ·simp[e,Ne.symm e]
theorem eP7{n:Nat}{listed:Array Bool}{i:Nat}(hi:i<listed.size){l1 l2:List Nat}(h:rem n listed=l1++i::l2):rem n (listed.setIfInBounds i true)=l1++l2:=by
 have h1:rem n (listed.setIfInBounds i true)=(rem n listed).filter fun j=> !decide (j=i):=by
  unfold rem;rw[List.filter_filter];apply List.filter_congr;intro j _;rw[cI0 hi];by_cases e:j=i<;>simp[e]
 have hnd:(rem n listed).Nodup:=List.Pairwise.filter _ List.nodup_range;rw[h]at hnd;rw[h1,h,List.filter_append,List.filter_cons];have hn:=List.nodup_append.1 hnd
 have ha:l1.filter (fun j=> !decide (j=i))=l1:=List.filter_eq_self.2 fun j hj=>by
  have:=hn.2.2 j hj i Ae;simp[this]
 have hb:l2.filter (fun j=> !decide (j=i))=l2:=List.filter_eq_self.2 fun j hj=>by
  have:=(List.nodup_cons.1 hn.2.1).1;have:j≠i:=fun e=>this (e▸hj)
  simp[this]
 rw[ha,hb];simp
theorem dQ0(hT:bP T P)(ro:Option Nat)(hkp:∀o∈ops,∀d,o.dst=some d->Φ.keep d=none){opsA:Array Oper}(hA:opsA.toList=ops){cl:List (Nat×Nat)}(hr:oO T cl hv ops=true){Q:Exit->Act->World->Prop}(hQ:∀σ' a' w' G',K σ'->Inv T Φ σ' a' w' G'->Q .normal a' w'):
 ∀(fuel:Nat) (listed:Array Bool) (σ:St) (a:Act) (w:World) (G:Gh),Inv T Φ σ a w G->Good cl σ->listed.size=ops.length->
  (∀i o,ops[i]? =some o->listed.getD i true=true->∀e∈o.after,Region.binds .any e=true->listed.getD e.on false=true)->
  (rem ops.length listed).length<=fuel->RunI T P hv Φ.n ops (rem ops.length listed) σ K->wpAnyIn (FW ro) 0 P .any opsA Q fuel listed a w:=by
 have hsz:opsA.size=ops.length:=by rw[<-hA];simp
 have hget:∀i,opsA[i]? =ops[i]? :=fun i=>by rw[<-hA,Array.getElem?_toList]
 have hready:∀(listed:Array Bool) i,i∈Region.ready .any opsA listed↔(i∈rem ops.length listed/\∃o,ops[i]? =some o/\∀e∈o.after,Region.binds .any e=true->listed.getD e.on false=true):=by
  intro listed i;unfold Region.ready;rw[List.mem_filter,List.mem_range,aF4,hsz,hget]
  cases h:ops[i]? with
  |none=>simp
  |some o=>
   simp only[Bool.and_eq_true,Bool.not_eq_true',Option.map_some,Option.getD_some,Array.all_eq_true_iff_forall_mem];constructor
   ·rintro⟨h1,h2,h3⟩
    refine⟨⟨h1,h2⟩,o,rfl,fun e he hb=>?_⟩;have:=h3 e he
    simpa [hb]using this
   ·rintro⟨⟨h1,h2⟩,o',ho',h3⟩
    cases ho';refine⟨h1,h2,fun e he=>?_⟩
    cases hb:Region.binds .any e with
    |false=>rfl
    |true=>simp[h3 e he hb]
 have hne:∀(listed:Array Bool),listed.size=ops.length->Region.ready .any opsA listed=[]->rem ops.length listed=[] :=by
  intro listed hls hnil
  cases hrem:rem ops.length listed with
  |nil=>rfl
  |cons i r=>
   exfalso;have hi:i∈rem ops.length listed:=by rw[hrem];simp
   obtain⟨h1,h2⟩:=aF4.1 hi;have hpw:(rem ops.length listed).Pairwise (·<·):=List.Pairwise.filter _ List.pairwise_lt_range;rw[hrem]at hpw
   have hmem:i∈Region.ready .any opsA listed:=by
    rw[hready];refine⟨hi,ops[i],Gy,fun e he hb=>?_⟩;have hlt:=((qX hr).2 i ops[i] Gy).1 e he hb
    cases hl:listed.getD e.on false with
    |true=>rfl
    |false=>
     exfalso
     have hm:e.on∈rem ops.length listed:=aF4.2 ⟨Aa,by
      have hlt':e.on<listed.size:=Aa;simp[hlt']at hl⊢;exact hl⟩
     rw[hrem]at hm;rcases List.mem_cons.1 hm with h|h
     ·omega
     ·have:=(List.pairwise_cons.1 hpw).1 _ h;omega
   rw[hnil]at hmem;cases hmem
 intro fuel
 induction fuel with
 |zero=>
  intro listed σ a w G inv _ hls hcl hlen h;have h0:rem ops.length listed=[] :=List.length_eq_zero_iff.1 Aa;rw[h0]at h;refine⟨?_,hQ σ a w G h inv⟩;rw[List.eq_nil_iff_forall_not_mem];intro i hi;have:=((hready listed i).1 hi).1
  rw[h0]at this;cases this
 |succ fuel ih=>
  intro listed σ a w G inv hgd hls hcl hlen h;refine⟨fun hnil=>?_,fun i hi=>?_⟩
  ·rw[hne listed hls hnil]at h
   exact hQ σ a w G h inv
  ·obtain⟨him,o,ho,hpre⟩:=(hready listed i).1 hi
   obtain⟨hil,hiu⟩:=aF4.1 him;obtain⟨l1,l2,hsp⟩:=List.append_of_mem him;have hpw:(rem ops.length listed).Pairwise (·<·):=List.Pairwise.filter _ List.pairwise_lt_range;rw[hsp]at hpw
   have hcomp:∀j∈l1,Compat cl hv ops j i:=by
    intro j hj p o' hp ho';rw[ho]at ho';cases ho';have hji:j<i:=(List.pairwise_append.1 hpw).2.2 j hj i Ae;rcases((qX hr).2 i o ho).2 j p hji hp with hb|hb
    ·exfalso
     have hjm:j∈rem ops.length listed:=by rw[hsp];simp[hj]
     have hju:=(aF4.1 hjm).2
     have:=cI3 (ops:=ops) (L:=fun k=>listed.getD k false=true) (R:=fun k=>listed.getD k false=true\/k=i) (by
      rintro k o' hk (hR|rfl) e he hbi
      ·refine hcl k o' hk ?_ e he hbi
       have:k<listed.size:=by
        rcases Nat.lt_or_ge k listed.size with h|h
        ·exact h
        ·simp[Array.getD,Nat.not_lt.2 h]at hR
       simp[this]at hR⊢;exact hR
      ·rw[ho]at hk;cases hk
       exact hpre e he hbi) (fun k hk=> .inl hk) ops [] [] rfl rfl Ae i j (.inr rfl) hb
     have hjl:j<listed.size:=by have:=(aF4.1 hjm).1;omega
     simp[hjl]at this hju;rw[this]at hju;cases hju
    ·exact hb
   rw[hsp]at h;obtain⟨o',v,ms,ho',he,hrest⟩:=front hT hkp (qX hr).1 l1 σ ⟨a,w,G,inv⟩ hgd hcomp h;rw[ho]at ho';cases ho';have hst:=eE8 (K:=fun σ'=>RunI T P hv Φ.n ops (l1++l2) σ' K/\Good cl σ') he ⟨hrest,cG5 (Real.wf ⟨a,w,G,inv⟩) hgd ((qX hr).1 o (List.mem_of_getElem? ho)) he⟩
   have hwp:=bZ3 hT inv hA (hkp o (List.mem_of_getElem? ho)) hst (Q:=Q) ro;have hrs:=eP7 (n:=ops.length) (by omega:i<listed.size) hsp
   have next:∀a' w' σ' G',(RunI T P hv Φ.n ops (l1++l2) σ' K/\Good cl σ')->Inv T Φ σ' a' w' G'->wpAnyIn (FW ro) 0 P .any opsA Q fuel (listed.setIfInBounds i true) a' w':=by
    intro a' w' σ' G' hk inv';refine ih _ σ' a' w' G' inv' hk.2 (by simp[hls]) ?_ ?_ ?_
    ·intro k ok hk' hl e he' hb
     rw[cI0 Aa]at hl⊢;split
     ·rfl
     ·split at hl
      ·rename_i hki
       subst hki;rw[ho]at hk';cases hk';exact hpre e he' hb
      ·exact hcl k ok hk' hl e he' hb
    ·rw[hrs]
     rw[hsp]at hlen;simp at hlen⊢;omega
    ·rw[hrs];exact hk.1
   unfold wpOpIn;rw[hget,ho];simp only;split
   ·rename_i hw
    rw[if_pos hw]at hwp;exact Oper.wpIn_mono (fun a' w' ⟨σ',G',hk,inv'⟩=>next a' w' σ' G' hk inv') hwp
   ·rename_i hw
    rw[if_neg hw]at hwp;obtain⟨G',σ',hk,inv'⟩:=hwp;exact⟨fun _ _=>trivial,next _ _ σ' G' hk inv'⟩
theorem bC4(hT:bP T P)(ro:Option Nat)(hm:P.follows .mixedOrders=true){ops:List Oper}{K:St->Prop}{opsA:Array Oper}(hA:opsA.toList=ops)(hkp:∀o∈ops,∀d,o.dst=some d->Φ.keep d=none){cl:List (Nat×Nat)}(hr:oO T cl hv ops=true)(hgd:Good cl σ){Q:Exit->Act->World->Prop}(hQ:∀σ' a' w' G',K σ'->Inv T Φ σ' a' w' G'->Q .normal a' w')(id:Nat)
 (inv:Inv T Φ σ a w G)(h:Run T P (.drawn hv) Φ.n ops ops σ K):(Code.region id opsA true).wpIn (FW ro) 0 P Q a w:=by
 have hsz:opsA.size=ops.length:=by rw[<-hA];simp
 refine wpIn_region_any hm (dQ0 hT ro hkp hA hr hQ _ _ σ a _ G (inv.drew _) hgd (by simp[hsz]) ?_ ?_ ?_)
 ·intro i o hi hl
  have:i<ops.length:=(List.getElem?_eq_some_iff.1 hi).1;simp[hsz,this]at hl
 ·refine Nat.le_trans (List.length_filter_le _ _) ?_
  simp[hsz]
 ·have:rem ops.length (Array.replicate opsA.size false)=List.range' 0 ops.length:=by
   unfold rem;rw[List.range_eq_range'];refine List.filter_eq_self.2 fun i hi=>?_;have:i<ops.length:=Dk
   simp[hsz,this]
  rw[this];exact eA9 K ops 0 σ (fun j=>Ae) h
end
section
variable{T:Tab}{P:Program}{Φ Φ' Φ2:Fr}{σ σ0:St}{a a0:Act}{w w' w0:World}{G G' G0:Gh}
theorem dP9{l:List Oper}{o:Oper}{d:Nat}(h:o∈l)(hd:o.dst=some d):d∈dG4 l:=by
 induction l with
 |nil=>cases h
 |cons x r ih=>
  show d∈(match x.dst with|some d=>d::dG4 r|none=>dG4 r)
  rcases List.mem_cons.1 h with rfl|h
  ·rw[hd];simp
  ·split
   ·exact List.mem_cons_of_mem _ (ih h)
   ·exact ih h
def Fr.at(Φ:Fr)(w:World)(G:Gh):Fr:={Φ with w0:=w,given:=fun b=>G.O b≠ .fz/\G.O b≠ .ext,F0:=fun b=>G.O b= .fz}
structure Later(Φ Φ':Fr):Prop where
 size:Φ.w0.heap.size<=Φ'.w0.heap.size
 os:Φ'.w0.os=Φ.w0.os
 tape:Φ'.w0.tape=Φ.w0.tape
 output:Φ'.w0.output=Φ.w0.output
 given:∀b,Φ'.given b->Φ.mine b
 F0:∀b,Φ.F0 b->Φ'.F0 b
 fz:∀b,Φ'.F0 b->Φ.F0 b\/Φ.mine b
 frame:∀b,b<Φ.w0.heap.size->¬Φ.given b->Φ'.w0.heap[b]? =Φ.w0.heap[b]?
 n:Φ'.n=Φ.n
 arg:Φ'.arg=Φ.arg
 argb:Φ'.argb=Φ.argb
theorem Later.mine(h:Later Φ Φ'){b:Nat}(hb:Φ'.mine b):Φ.mine b:=by
 rcases hb with hb|hb
 ·exact .inl (Nat.le_trans h.size hb)
 ·exact h.given b hb
theorem Later.trans(h:Later Φ Φ')(h2:Later Φ' Φ2):Later Φ Φ2 where
 size:=Nat.le_trans h.size h2.size
 os:=h2.os.trans h.os
 tape:=h2.tape.trans h.tape
 output:=h2.output.trans h.output
 given b hb:=h.mine (h2.given b hb)
 F0 b hb:=h2.F0 b (h.F0 b hb)
 fz b hb:=by
  rcases h2.fz b hb with q|q
  ·exact h.fz b q
  ·exact .inr (h.mine q)
 frame b hb hg:=by
  have hg':¬Φ'.given b:=fun q=>by
   rcases h.given b q with q|q
   ·omega
   ·exact hg q
  exact(h2.frame b (Nat.lt_of_lt_of_le hb h.size) hg').trans (h.frame b hb hg)
 n:=h2.n.trans h.n
 arg:=h2.arg.trans h.arg
 argb:=h2.argb.trans h.argb
theorem Later.of(h1:Φ'.w0=Φ.w0)(h2:Φ'.given=Φ.given)(h3:Φ'.F0=Φ.F0)(h4:Φ'.n=Φ.n)(h5:Φ'.arg=Φ.arg)(h6:Φ'.argb=Φ.argb):Later Φ Φ' where
 size:=by rw[h1];exact Nat.le_refl _
 os:=by rw[h1]
 tape:=by rw[h1]
 output:=by rw[h1]
 given b hb:= .inr (by rw[<-h2];exact hb)
 F0 b hb:=by rw[h3];exact hb
 fz b hb:= .inl (by rw[<-h3];exact hb)
 frame b _ _:=by rw[h1]
 n:=h4
 arg:=h5
 argb:=h6
structure Quiet(Φ:Fr)(w w':World)(G:Gh):Prop where
 size:w.heap.size<=w'.heap.size
 same:∀b,G.O b≠ .ext->w'.heap[b]? =w.heap[b]?
 old:∀b,b<Φ.w0.heap.size->w'.heap[b]? =w.heap[b]?
 os:w'.os=w.os
 tape:w'.tape=w.tape
 output:w'.output=w.output
theorem Inv.quiet(inv:Inv T Φ σ a w G)(q:Quiet Φ w w' G):Inv T Φ σ a w' G:=
 inv.change rfl ⟨fun _ h=>h,fun b h=>q.same b F7⟩ (fun _ _=>rfl) (fun _ _ _=>rfl) (fun _ h=>h) (fun _ _ h=>h)
  (fun i cs hi=> .inl ⟨hi,(inv.box i cs hi).choose_spec.choose_spec.2.2,q.same _ (by rw[(inv.box i cs hi).choose_spec.choose_spec.2.2];simp)⟩)
  (fun k en hk=> .inl ⟨hk,fun b hb=>⟨hb,q.same b Au⟩⟩)
  (fun b hb=>Nat.lt_of_lt_of_le (inv.tag b hb) q.size) (fun _=> .inl rfl)
  (fun b=>by
   rcases Nat.lt_or_ge b Φ.w0.heap.size with h|h
   ·exact .inl (q.old b h)
   ·exact .inr (.inl h))
  q.size q.os q.tape q.output
theorem Inv.mine(inv:Inv T Φ σ a w G){b:Nat}(h:G.O b≠ .fz)(h2:G.O b≠ .ext):Φ.mine b:=by
 cases hO:G.O b with
 |ext=>exact absurd hO h2
 |fz=>exact absurd hO h
 |bx i=>exact inv.mineB b i hO
 |ar k=>exact inv.mineA b k hO
theorem Inv.up(inv:Inv T Φ σ a w G):Inv T (Φ.at w G) σ a w G where
 nd:=inv.nd
 kp:=inv.kp
 sz:=inv.sz
 env:=inv.env
 wfE:=inv.wfE
 box:=inv.box
 wfB:=inv.wfB
 arr:=inv.arr
 wfA:=inv.wfA
 tag:=inv.tag
 mineB b i h:= .inr ⟨F7,F7⟩
 mineA b k h:= .inr ⟨F7,F7⟩
 fzm b h:= .inl h
 F0 b h:=h
 frame b _ _:=rfl
 size:=Nat.le_refl _
 os:=rfl
 tape:=rfl
 output:=rfl
 args:=inv.args
 lay:=by
  refine⟨T.lay_mono (fun b hb=>⟨inv.F0 b hb,inv.frame b (inv.lay.2 b hb).1 (inv.lay.2 b hb).2⟩) inv.lay.1,fun b hb=>⟨inv.tag b Ea,fun h=>h.1 hb⟩⟩
 argb:=inv.argb
theorem Inv.aF0(inv:Inv T Φ σ a w G):Later Φ (Φ.at w G)where
 size:=inv.size
 os:=inv.os
 tape:=inv.tape
 output:=inv.output
 given b hb:=inv.mine hb.1 hb.2
 F0 b hb:=inv.F0 b hb
 fz b hb:=inv.fzm b hb
 frame b hb hg:=inv.frame b hb hg
 n:=rfl
 arg:=rfl
 argb:=rfl
theorem Inv.down(inv0:Inv T Φ σ0 a0 w0 G0)(hl:Later Φ Φ')(inv:Inv T Φ' σ a w G)(h1:Φ2.w0=Φ.w0)(h2:Φ2.given=Φ.given)(h3:Φ2.F0=Φ.F0)(h4:Φ2.n=Φ.n)(h5:Φ2.arg=Φ.arg)(h6:Φ2.argb=Φ.argb)(h7:Φ2.ds=Φ'.ds)(h8:Φ2.keep=Φ'.keep):Inv T Φ2 σ a w G where
 nd:=by rw[h7];exact inv.nd
 kp:=by rw[h8];exact inv.kp
 sz:=by rw[h4,<-hl.n];exact inv.sz
 env:=inv.env
 wfE:=inv.wfE
 box:=inv.box
 wfB:=inv.wfB
 arr:=inv.arr
 wfA:=inv.wfA
 tag:=inv.tag
 mineB b i h:=by
  have:=hl.mine (inv.mineB b i h);unfold Fr.mine at*;rw[h1,h2];exact this
 mineA b k h:=by
  have:=hl.mine (inv.mineA b k h);unfold Fr.mine at*;rw[h1,h2];exact this
 fzm b h:=by
  have:Φ.F0 b\/Φ.mine b:=by
   rcases inv.fzm b h with q|q
   ·exact hl.fz b q
   ·exact .inr (hl.mine q)
  unfold Fr.mine at*;rw[h1,h2,h3];exact this
 F0 b h:=inv.F0 b (hl.F0 b (by rw[<-h3];exact h))
 frame b hb hg:=by
  rw[h1]at hb⊢;rw[h2]at hg
  have hg':¬Φ'.given b:=fun q=>by
   rcases hl.given b q with q|q
   ·omega
   ·exact hg q
  exact(inv.frame b (Nat.lt_of_lt_of_le hb hl.size) hg').trans (hl.frame b hb hg)
 size:=by rw[h1];exact Nat.le_trans hl.size inv.size
 os:=by rw[h1];exact inv.os.trans hl.os
 tape:=by rw[h1];exact inv.tape.trans hl.tape
 output:=by rw[h1];exact inv.output.trans hl.output
 args:=by rw[h5,<-hl.arg];exact inv.args
 lay:=by rw[h1,h2,h3];exact inv0.lay
 argb:=by rw[h6,<-hl.argb];exact inv.argb
theorem Inv.nobody(inv:Inv T Φ σ a w G){b:Nat}(h1:b<Φ.w0.heap.size)(h2:¬Φ.given b)(h3:¬Φ.F0 b):w.heap[b]? =Φ.w0.heap[b]? /\G.O b= .ext:=by
 have hm:¬Φ.mine b:=fun h=>by
  rcases h with h|h
  ·omega
  ·exact h2 h
 refine⟨inv.frame b h1 h2,?_⟩
 cases hO:G.O b with
 |ext=>rfl
 |fz=>
  rcases inv.fzm b hO with h|h
  ·exact absurd h h3
  ·exact absurd h hm
 |bx i=>exact absurd (inv.mineB b i hO) hm
 |ar k=>exact absurd (inv.mineA b k hO) hm
theorem Inv.mP{Φ:Fr}(inv:Inv T Φ σ a w G)(h0:Φ.w0=w0)(h1:Φ.given=fun b=>G0.O b≠ .fz/\G0.O b≠ .ext)(h2:Φ.F0=fun b=>G0.O b= .fz){b:Nat}(hb:b<w0.heap.size)(hO:G0.O b= .ext):w.heap[b]? =w0.heap[b]? /\G.O b= .ext:=by
 have:=inv.nobody (b:=b) (by rw[h0];exact hb) (by rw[h1];exact fun h=>h.2 hO) (by rw[h2];exact fun h=>by rw[show G0.O b= .fz from h]at hO;cases hO)
 rw[h0]at this;exact this
def mark(D:Nat):Deferred:={target:= .collected D,args:= #[]}
def Marks(w0 w:World)(G:Gh)(ms:List Deferred):Prop:=
 ∃Ds:List Nat,ms=Ds.map mark/\Ds.Nodup/\∀D∈Ds,w0.heap.size<=D/\w.heap[D]? =some (.deferred (some []))/\G.O D= .ext
theorem Marks.nil(w0 w:World)(G:Gh):Marks w0 w G [] :=⟨[],rfl,List.nodup_nil,fun D h=>Ag⟩
def Lift(T:Tab)(Φ:Fr)(Q:Exit->St->Prop)(e:Exit)(a:Act)(w:World):Prop:=∃ms σ G,Q e σ/\Inv T {Φ with ds:=ms++Φ.ds} σ a w G/\Marks Φ.w0 w G ms
theorem Lift.of{Q:Exit->St->Prop}{e:Exit}(h:Q e σ)(inv:Inv T Φ σ a w G):Lift T Φ Q e a w:=⟨[],σ,G,h,inv,Marks.nil _ _ _⟩
theorem Lift.back{Q:Exit->St->Prop}{e:Exit}{ms:List Deferred}(inv1:Inv T {Φ with ds:=ms++Φ.ds} σ0 a0 w0 G0)(mk:Marks Φ.w0 w0 G0 ms)
 (h:Lift T (Fr.at {Φ with ds:=ms++Φ.ds} w0 G0) Q e a w):Lift T Φ Q e a w:=by
 obtain⟨ms2,σ,G,hq,inv,Ds2,e2,nd2,h2⟩:=h;obtain⟨Ds,e1,nd1,h1⟩:=mk;have hl:Later {Φ with ds:=ms++Φ.ds} {(Fr.at {Φ with ds:=ms++Φ.ds} w0 G0)with ds:=ms2++(ms++Φ.ds)}:=inv1.aF0.trans (Later.of rfl rfl rfl rfl rfl rfl);have hD:∀D∈Ds,D<w0.heap.size:=fun D hd=>(Array.getElem?_eq_some_iff.1 (h1 D hd).2.1).1
 refine⟨ms2++ms,σ,G,hq,inv1.down hl inv rfl rfl rfl rfl rfl rfl (List.append_assoc _ _ _) rfl,Ds2++Ds,by rw[e1,e2,List.map_append],?_,fun D hd=>?_⟩
 ·refine List.nodup_append.2 ⟨nd2,nd1,fun x hx y hy=>?_⟩
  have q1:w0.heap.size<=x:=(h2 x hx).1;have q2:=hD y hy
  omega
 ·rcases List.mem_append.1 hd with hd|hd
  ·obtain⟨q1,q2,q3⟩:=h2 D hd
   exact⟨Nat.le_trans inv1.size q1,q2,q3⟩
  ·obtain⟨q1,q2,q3⟩:=h1 D hd
   obtain⟨r1,r2⟩:=inv.mP (w0:=w0) (G0:=G0) rfl rfl rfl (hD D hd) q3;exact⟨q1,r1.trans q2,r2⟩
theorem dJ8:∀(ps:List Nat) (it:List V) (vs:List Value) (σ:St) (a:Act),ps.length=it.length->vs.length=it.length->(∀p∈ps,p<Φ.n/\Φ.keep p=none)->
 (∀(j:Nat) v y,vs[j]? =some v->it[j]? =some y->y.pure/\Rv w G v y)->Inv T Φ σ a w G->Inv T Φ ⟨cM2 ps it σ.env,σ.bx,σ.ar⟩ {a with tmps:=(ps.zip vs).foldl (fun t (p,v)=>t.setIfInBounds p v) a.tmps} w G:=by
 intro ps
 induction ps with
 |nil=>intro it vs σ a _ _ _ _ inv;exact inv
 |cons p ps ih=>
  intro it vs σ a h1 h2 h3 h4 inv
  cases it with
  |nil=>simp at h1
  |cons y it=>
   cases vs with
   |nil=>simp at h2
   |cons v vs=>
    obtain⟨q1,q2⟩:=h4 0 v y rfl rfl;have hp:=h3 p Ae;have inv1:=inv.bA3 (d:=p) ⟨hp.1,hp.2⟩ q2 (V.pure.ok q1 _ _)
    exact ih it vs (σ.set p y) (a.put (some p) v) (by simpa using h1) FC (fun p hp=>h3 p (by simp[hp])) (fun j v y hv hy=>h4 (j+1) v y AZ CJ) inv1
theorem Inv.outer{wr:List Nat}(inv0:Inv T Φ σ0 a0 w0 G0)(h1:Φ2.w0=Φ.w0)(h2:Φ2.given=Φ.given)(h3:Φ2.F0=Φ.F0)(h4:Φ2.n=Φ.n)(h5:Φ2.arg=Φ.arg)(h6:Φ2.argb=Φ.argb)
 (hk:∀s,s∉wr->Φ2.keep s=some (a0.tmps.getD s undef))(inv:Inv T Φ2 σ a w G):Inv T Φ (sJ wr σ) a0 w G where
 nd:=inv0.nd
 kp:=inv0.kp
 sz:=inv0.sz
 env s:=by
  show Rv w G (a0.tmps.getD s undef) (cond (memR s wr) .bot (σ.env s))
  cases hm:memR s wr with
  |true=>exact .bot _
  |false=>
   have:s∉wr:=fun h=>by rw[pM.2 h]at hm;cases hm
   have e:=inv.kp s _ (hk s this);rw[<-e];exact inv.env s
 wfE s:=by
  show(cond (memR s wr) V.bot (σ.env s)).ok _ _
  cases memR s wr with
  |true=>simp only[cond_true,V.ok]
  |false=>exact inv.wfE s
 box:=inv.box
 wfB:=inv.wfB
 arr:=inv.arr
 wfA:=inv.wfA
 tag:=inv.tag
 mineB b i h:=by have:=inv.mineB b i h;unfold Fr.mine at*;rw[h1,h2]at this;exact this
 mineA b k h:=by have:=inv.mineA b k h;unfold Fr.mine at*;rw[h1,h2]at this;exact this
 fzm b h:=by have:=inv.fzm b h;unfold Fr.mine at*;rw[h1,h2,h3]at this;exact this
 F0 b h:=inv.F0 b (by rw[h3];exact h)
 frame b hb hg:=by have:=inv.frame b (by rw[h1];exact hb) (by rw[h2];exact hg);rw[h1]at this;exact this
 size:=by have:=inv.size;rw[h1]at this;exact this
 os:=by have:=inv.os;rw[h1]at this;exact this
 tape:=by have:=inv.tape;rw[h1]at this;exact this
 output:=by have:=inv.output;rw[h1]at this;exact this
 args:=by have:=inv.args;rw[h5]at this;exact this
 lay:=inv0.lay
 argb:=by have:=inv.argb;rw[h6]at this;exact this
theorem Inv.aQ1(inv:Inv T Φ σ a w G)(ds:List Deferred)(h1:Φ2.w0=Φ.w0)(h2:Φ2.given=Φ.given)(h3:Φ2.F0=Φ.F0)(h4:Φ2.n=Φ.n)(h5:Φ2.arg=Φ.arg)(h6:Φ2.argb=Φ.argb)(h7:Φ2.ds=ds)(h8:∀s v,Φ2.keep s=some v->a.tmps.getD s undef=v):Inv T Φ2 σ {a with defers:=ds} w G where
 nd:=h7.symm
 kp:=h8
 sz:=by rw[h4];exact inv.sz
 env:=inv.env
 wfE:=inv.wfE
 box:=inv.box
 wfB:=inv.wfB
 arr:=inv.arr
 wfA:=inv.wfA
 tag:=inv.tag
 mineB b i h:=by have:=inv.mineB b i h;unfold Fr.mine at*;rw[h1,h2];exact this
 mineA b k h:=by have:=inv.mineA b k h;unfold Fr.mine at*;rw[h1,h2];exact this
 fzm b h:=by have:=inv.fzm b h;unfold Fr.mine at*;rw[h1,h2,h3];exact this
 F0 b h:=inv.F0 b (by rw[<-h3];exact h)
 frame b hb hg:=by rw[h1]at hb⊢;rw[h2]at hg;exact inv.frame b hb hg
 size:=by rw[h1];exact inv.size
 os:=by rw[h1];exact inv.os
 tape:=by rw[h1];exact inv.tape
 output:=by rw[h1];exact inv.output
 args:=by rw[h5];exact inv.args
 lay:=by rw[h1,h2,h3];exact inv.lay
 argb:=by rw[h6];exact inv.argb
theorem aF9{l:Nat}{o:Obj}(hl:G.O l= .ext)(h0:Φ.w0.heap.size<=l):Quiet Φ w (w.putObj l o) G where
 size:=by simp[World.putObj]
 same b hb:=World.putObj_heap_other (by rintro rfl;exact hb hl)
 old b hb:=World.putObj_heap_other Aa
 os:=rfl
 tape:=rfl
 output:=rfl
theorem Le.out(h:Le T σ σ0)(inv:Inv T Φ σ a w G):∃G',Inv T Φ σ0 a w G':=by unfold Le at h;exact h Φ a w G inv
theorem dV2{ps:Array Nat}{vs:Array Value}{t:Array Value}:(ps.zip vs).foldl (fun t (p,v)=>t.setIfInBounds p v) t=(ps.toList.zip vs.toList).foldl (fun t (p,v)=>t.setIfInBounds p v) t:=by
 rw[<-Array.foldl_toList,Array.toList_zip]
theorem aV3(o:Obj)(inv:Inv T Φ σ a w G):Quiet Φ w (w.alloc o) G where
 size:=Ae
 same b hb:=heap_alloc_old w _ (inv.tag b hb)
 old b hb:=heap_alloc_old w _ (Nat.lt_of_lt_of_le hb inv.size)
 os:=rfl
 tape:=rfl
 output:=rfl
theorem cI6{n:Nat}{x y:Code}{f:Operand}{g:FuncId}{caps:List V}{psA:Array Nat}{Q:Exit->St->Prop}(hn:Φ.n=n)
 (ihx:∀(Φ:Fr) (ro:Option Nat) (σ:St) (a:Act) (w:World) (G:Gh) (Q:Exit->St->Prop),Φ.n=n->(∀d∈dstsOf x,Φ.keep d=none)->Inv T Φ σ a w G->nH T P n x σ Q->x.wpIn (FW ro) 0 P (Lift T Φ Q) a w)
 (ihy:∀(Φ:Fr) (ro:Option Nat) (σ:St) (a:Act) (w:World) (G:Gh) (Q:Exit->St->Prop),Φ.n=n->(∀d∈dstsOf y,Φ.keep d=none)->Inv T Φ σ a w G->nH T P n y σ Q->y.wpIn (FW ro) 0 P (Lift T Φ Q) a w)
 (hps:∀p∈psA.toList,p<n)(hk:∀d∈psA.toList++(dstsOf x++dstsOf y),Φ.keep d=none)(hst:allR V.still caps=true)
 (inv:Inv T Φ σ a w G)(h:aO0 T P f g caps psA.toList (psA.toList++(dstsOf x++dstsOf y)) (nH T P n x) (nH T P n y) σ Q):(Code.rangeFunc f psA x y).wpIn (FW none) 0 P (Lift T Φ Q) a w:=by
 obtain⟨items,hspec,hlen,A,st,I,⟨p0,hle,h0,hf⟩,hround,hend⟩:=h.out;generalize hwr:psA.toList++(dstsOf x++dstsOf y)=wr at*;have hwp:∀p∈psA.toList,p∈wr:=fun p hp=>Gj;have hwx:∀p∈dstsOf x,p∈wr:=fun p hp=>Gj
 have hwy:∀p∈dstsOf y,p∈wr:=fun p hp=>Gj;obtain⟨G0,inv0⟩:=hle.out inv;have hev:=inv0.ev f
 rw[hf]at hev
 obtain⟨lb,e1,e2,e3⟩:=hev.1.fn_cap (by
  cases caps with
  |nil=>rfl
  |cons x r=>cases x with
   |ap e l=>have:=dY.1 hst (.ap e l) (List.mem_cons_self ..);cases this
   |_=>rfl) (fun cs he=>by subst he;have:=dY.1 hst (.own 0 []) (List.mem_cons_self ..);cases this)
 have hcp:∀(j:Nat) y,caps[j]? =some y->y.pure:=fun j y hy=>by
  have h2:=hev.2;simp only[V.ok]at h2;exact bL0 (dY.1 hst y (List.mem_of_getElem? hy)) (aH.1 h2 y (List.mem_of_getElem? hy))
 refine wpIn_rangeFunc ?_;intro fn hfn;obtain⟨rec,hrec⟩:∃rec:LoopState->Option Code->Loop,rec=fun st pe=> {state:=st,pending:=pe,fn,tmps:=a.tmps,params:=psA,assign:=x,body:=y,defers:=w.heap.size}:=⟨_,rfl⟩;obtain⟨W1,hW1⟩:∃W1,(w.alloc (.deferred (some []))).alloc (.loop (rec .ready none))=W1:=⟨_,rfl⟩;obtain⟨l,hl⟩:∃l,l=w.heap.size+1:=⟨_,rfl⟩;obtain⟨D,hD⟩:∃D,D=w.heap.size:=⟨_,rfl⟩;have hDl:D≠l:=Aa
 have hs1:W1.heap.size=w.heap.size+2:=by rw[<-hW1];simp
 have hL1:W1.heap[l]? =some (.loop (rec .ready none)):=by
  rw[<-hW1,hl];have:=World.alloc_heap_new (w.alloc (.deferred (some []))) (.loop (rec .ready none));rwa [World.size_alloc]at this
 have hK1:W1.heap[D]? =some (.deferred (some [])):=by
  rw[<-hW1,hD];exact(heap_alloc_old _ _ Ae).trans (World.alloc_heap_new w _)
 have hl0:Φ.w0.heap.size<=l:=by have:=inv.size;omega
 have hD0:Φ.w0.heap.size<=D:=by have:=inv.size;omega
 have invA0:=inv0.quiet (aV3 (.deferred (some [])) inv0);have inv1:Inv T Φ (st p0) a W1 G0:=by rw[<-hW1];exact invA0.quiet (aV3 _ invA0)
 have hkp1:Keep w W1 G0 G0:=⟨fun _ h=>h,fun b hb=>by
  have hb':b<w.heap.size:=inv0.tag b Au;rw[<-hW1];exact(heap_alloc_old _ _ A8).trans (heap_alloc_old w _ hb')⟩
 have ol1:G0.O l= .ext:=inv0.ext_size Aa;have oD1:G0.O D= .ext:=inv0.ext_size Aa
 have hcall:callable P g=true:=hspec.1
 have eg:∀args w,(callFunc g args).run P w= .ok (.enter g args) w:=by
  intro args w;unfold callable at hcall;split at hcall
  ·rename_i fn hfn
   simp only[Bool.and_eq_true,bne_iff_ne]at hcall;have hb:fn.body≠none:=by intro h;rw[h]at hcall;simp at hcall
   simp[callFunc,hfn,hb,hcall.2]
  ·cases hcall
 refine⟨l,[mark D],W1,{target:= .fn (.func g) lb,args:= #[.func (.yield l) #[] #[]]},W1,g, #[.func (.yield l) #[] #[]] ++lb,W1,?_,?_,?_,?_,fun hh=>Eb,?_⟩
 ·rw[<-hW1,hrec,hl,hD];exact run_enterLoop_outer _ _ _ _ _
 ·simp only[resolve,e1]
  simp[go_sem]
 ·intro f' _;trivial
 ·simp[invoke,go_sem,eg]
 refine(hspec.2 W1 G0 lb l e2 (fun b hb=>by have:=inv0.tag b hb;omega) (fun j v y hv hy=>⟨hcp j y hy,(e3 j v y hv hy).aW hkp1 (hcp j y hy)⟩) inv1.up.lay.1
  (fun k W G'=>∃p,I k p/\Inv T Φ (st p) a W G'/\W.heap[l]? =some (.loop (rec .ready none))/\W.heap[D]? =some (.deferred (some []))/\G'.O l= .ext/\G'.O D= .ext)
  (fun W G'=>∃c e σ2,((c= .ret/\e= .ret)\/∃i,c= .exit i/\e= .exit i)/\Q e σ2/\Inv T Φ σ2 a W G'/\W.heap[l]? =some (.loop (rec .done (some c)))/\W.heap[D]? =some (.deferred (some []))/\G'.O l= .ext/\G'.O D= .ext)
  ?_ ?_ ?_ ?_ ⟨p0,h0,inv1,hL1,hK1,ol1,oD1⟩).mono ?_
 ·rintro k W W' G' ⟨p,q1,q2,q3,q4,q5,q6⟩ hs hb ho ht hu
  have hlW:l<W.heap.size:=(Array.getElem?_eq_some_iff.1 q3).1;refine⟨p,q1,q2.quiet ⟨hs,fun b h=>hb b (q2.tag b h) (.inl h),fun b h=>hb b (Nat.lt_of_lt_of_le h q2.size) (.inr (by have:=inv.size;omega)),ho,ht,hu⟩,?_,?_,q5,q6⟩
  ·rw[hb l hlW (.inr Aa)];exact q3
  ·rw[hb D Aa (.inr Aa)];exact q4
 ·rintro W W' G' ⟨c,e,σ2,q0,q1,q2,q3,q4,q5,q6⟩ hs hb ho ht hu
  have hlW:l<W.heap.size:=(Array.getElem?_eq_some_iff.1 q3).1;refine⟨c,e,σ2,q0,q1,q2.quiet ⟨hs,fun b h=>hb b (q2.tag b h) (.inl h),fun b h=>hb b (Nat.lt_of_lt_of_le h q2.size) (.inr (by have:=inv.size;omega)),ho,ht,hu⟩,?_,?_,q5,q6⟩
  ·rw[hb l hlW (.inr Aa)];exact q3
  ·rw[hb D Aa (.inr Aa)];exact q4
 ·rintro k W G' G'' ⟨p,q1,q2,q3,q4,q5,q6⟩ hβ hav hO
  have hb0:∀b,b<W1.heap.size->G''.O b=G'.O b:=fun b hb=>by
   rcases hO b with h|h
   ·exact h
   ·omega
  refine⟨p,q1,?_,q3,q4,by rw[hb0 l (by omega)];exact q5,by rw[hb0 D (by omega)];exact q6⟩
  have keepO:∀b,G'.O b≠ .ext->G''.O b=G'.O b:=fun b hb=>by
   rcases hO b with h|h
   ·exact h
   ·exact absurd h.2.2.1 hb
  refine q2.change rfl ⟨fun b hb=>Fp,fun _ _=>rfl⟩ (fun i _=>by rw[hβ]) (fun i g _=>by rw[hav]) (fun _ h=>h) (fun _ _ h=>h)
   (fun i cs hi=> .inl ⟨hi,?_,rfl⟩) (fun k en hk=> .inl ⟨hk,fun b hb=>⟨Fp,rfl⟩⟩) (fun b hb=>?_) (fun b=>?_) (fun b=> .inl rfl) (Nat.le_refl _) rfl rfl rfl
  ·have:=(q2.box i cs hi).choose_spec.choose_spec.2.2
   rw[keepO _ (by rw[this];simp)];exact this
  ·rcases hO b with h|h
   ·rw[h]at hb;exact q2.tag b hb
   ·exact h.2.1
  ·rcases hO b with h|h
   ·exact .inl h
   ·exact .inr (.inr (.inl (by have:=inv.size;omega)))
 ·
  rintro k W G' vs it ⟨p,hI,inv',hL,hK,ol,oD⟩ hit hvs hrv;have hlW:l<W.heap.size:=(Array.getElem?_eq_some_iff.1 hL).1;have hil:it.length=psA.toList.length:=hlen it (List.mem_of_getElem? hit)
  have hy:=run_yield (P:=P) (args:=vs) hL (by rw[hrec];show vs.size=psA.size;rw[hvs,hil];simp)
  rw[hrec]at hy;refine⟨fn,_,x,y,hy,roundIn_of_wpIn hfn ?_⟩;show x.wpIn (FW (some l)) 0 P _ _ _;obtain⟨Φr,hΦr⟩:∃Φr:Fr,Φr={(Φ.at W G')with ds:=[],keep:=fun s=> @ite _ (s∈wr) (Classical.propDecidable _) none (some (a.tmps.getD s undef))}:=⟨_,rfl⟩
  have hkr:∀d∈wr,Φr.keep d=none:=fun d hd=>by rw[hΦr];exact if_pos hd
  have hkr2:∀d,d∉wr->Φr.keep d=some (a.tmps.getD d undef):=fun d hd=>by rw[hΦr];exact if_neg hd
  have hnr:Φr.n=n:=by rw[hΦr];exact hn
  have invr:Inv T Φr ⟨cM2 psA.toList it (st p).env,(st p).bx,(st p).ar⟩ {tmps:=(psA.zip vs).foldl (fun t (p,v)=>t.setIfInBounds p v) a.tmps,defers:=[]} W G':=by
   rw[dV2]
   have:=inv'.up.aQ1 (Φ2:=Φr) [] Ep Ep Ep Ep Ep Ep Ep (fun s v hs=>by
    by_cases hm:s∈wr
    ·rw[hkr s hm]at hs;cases hs
    ·rw[hkr2 s hm]at hs;exact Option.some.inj hs)
   exact dJ8 psA.toList it vs.toList (st p) {a with defers:=[]} hil.symm (by simpa using hvs) (fun p hp=>⟨by rw[hnr];exact hps p hp,hkr p (hwp p hp)⟩) (fun j v y hv hy=>hrv j v y AZ hy) this
  refine wpIn_mono (ihx Φr (some l) _ _ W G' _ hnr (fun d hd=>hkr d (hwx d hd)) invr (hround k p it hI hit)) ?_;rintro e a1 w1 ⟨ms1,σ1,G1,hq1,invA,mk1⟩
  cases e with
  |normal=>
   obtain⟨rl,gl⟩:=invA.mP (w0:=W) (G0:=G') DT DT DT hlW ol;obtain⟨rD,gD⟩:=invA.mP (w0:=W) (G0:=G') DT DT DT Aa oD;rw[hL]at rl;rw[hK]at rD;obtain⟨w2,hw2⟩:∃w2,w2=w1.putObj l (.loop {rec .ready none with state:= .busy}):=⟨_,rfl⟩;have hlw1:l<w1.heap.size:=(Array.getElem?_eq_some_iff.1 rl).1;refine⟨w2,by rw[hw2];exact run_beginRound rl (by rw[hrec]),?_⟩
   show y.wpIn (FW (some l)) 0 P _ _ _;have hlat:Later Φ {Φr with ds:=ms1++Φr.ds}:=inv'.aF0.trans (Later.of Ep Ep Ep Ep Ep Ep);have invB:Inv T {Φ with ds:=ms1++Φr.ds,keep:=Φr.keep} σ1 a1 w1 G1:=inv'.down hlat invA rfl rfl rfl rfl rfl rfl rfl rfl
   have invB2:Inv T {Φ with ds:=ms1++Φr.ds,keep:=Φr.keep} σ1 a1 w2 G1:=by rw[hw2];exact invB.quiet (aF9 gl hl0)
   have invO:Inv T Φ (sJ wr σ1) a w2 G1:=inv'.outer (Φ2:={Φ with ds:=ms1++Φr.ds,keep:=Φr.keep}) rfl rfl rfl rfl rfl rfl (fun s hs=>hkr2 s hs) invB2
   have hL2:w2.heap[l]? =some (.loop {rec .ready none with state:= .busy}):=by rw[hw2];exact World.putObj_heap_same hlw1
   have hlw2:l<w2.heap.size:=(Array.getElem?_eq_some_iff.1 hL2).1;have hK2:w2.heap[D]? =some (.deferred (some [])):=by rw[hw2];exact(World.putObj_heap_other hDl).trans rD
   have hoth:∀b,b≠l->w2.heap[b]? =w1.heap[b]? :=fun b hb=>by rw[hw2];exact World.putObj_heap_other hb
   refine wpIn_mono (ihy (Fr.at {Φ with ds:=ms1++Φr.ds,keep:=Φr.keep} w2 G1) (some l) σ1 a1 w2 G1 _ hn (fun d hd=>hkr d (hwy d hd)) invB2.up hq1) ?_
   rintro e a2 w3 ⟨ms2,σ2,G2,hq2,invC,mk2⟩;have invE:Inv T (Φ.at w2 G1) (sJ wr σ2) a w3 G2:=invO.up.outer (Φ2:={(Fr.at {Φ with ds:=ms1++Φr.ds,keep:=Φr.keep} w2 G1)with ds:=ms2++(ms1++Φr.ds)}) rfl rfl rfl rfl rfl rfl (fun s hs=>hkr2 s hs) invC
   have fin:∀(jump:Option Code) (σ3:St) (G3:Gh),Inv T (Φ.at w2 G1) σ3 a w3 G3->∃w4,(Instr.endRound l jump).run P w3= .ok (.bool jump.isNone) w4/\Inv T Φ σ3 a w4 G3/\w4.heap[l]? =some (.loop (rec (if jump.isNone then .ready else .done) jump))/\w4.heap[D]? =some (.deferred (some []))/\G3.O l= .ext/\G3.O D= .ext/\xN W1 W w4 G' G3:=by
    intro jump σ3 G3 inv3;obtain⟨sl,tl⟩:=inv3.mP (w0:=w2) (G0:=G1) rfl rfl rfl hlw2 gl;obtain⟨sD,tD⟩:=inv3.mP (w0:=w2) (G0:=G1) rfl rfl rfl Aa gD;rw[hL2]at sl;rw[hK2]at sD;have hlw3:l<w3.heap.size:=(Array.getElem?_eq_some_iff.1 sl).1;have hr:=run_endRound (P:=P) jump sl
    have hrr:({({rec .ready none with state:= .busy}:Loop)with state:=if jump.isNone then .ready else .done,pending:=jump}:Loop)=rec (if jump.isNone then .ready else .done) jump:=by rw[hrec]
    have hr2:(Instr.endRound l jump).run P w3= .ok (.bool jump.isNone) (w3.putObj l (.loop (rec (if jump.isNone then .ready else .done) jump))):=by rw[<-hrr];exact hr
    have inv4:Inv T Φ σ3 a w3 G3:=invO.down invO.aF0 inv3 rfl rfl rfl rfl rfl rfl rfl rfl;have sizes:W.heap.size<=w1.heap.size/\w1.heap.size=w2.heap.size/\w2.heap.size<=w3.heap.size:=⟨by have:=invA.size;rw[hΦr]at this;exact this,by rw[hw2];simp[World.putObj],inv3.size⟩
    refine⟨_,hr2,inv4.quiet (aF9 tl hl0),World.putObj_heap_same hlw3,(World.putObj_heap_other hDl).trans sD,tl,tD,⟨⟨fun b hb=>?_,fun b hb=>?_⟩,?_,fun b hb1 hb2 hb3=>?_,fun b hb=>?_,?_,?_,?_⟩⟩
    ·exact inv3.F0 b (invA.F0 b (by rw[hΦr];exact hb))
    ·have hbl:b≠l:=by rintro rfl;rw[ol]at hb;cases hb
     have hbW:b<W.heap.size:=inv'.tag b Au
     have f1:w1.heap[b]? =W.heap[b]? :=by
      have:=invA.frame b (by rw[hΦr];exact hbW) (by rw[hΦr];exact fun q=>q.1 hb)
      rw[hΦr]at this;exact this
     have hb1:G1.O b= .fz:=invA.F0 b (by rw[hΦr];exact hb)
     have f2:w3.heap[b]? =w2.heap[b]? :=inv3.frame b (by show b<w2.heap.size;omega) (fun q=>q.1 hb1)
     rw[World.putObj_heap_other hbl,f2,hoth b hbl,f1]
    ·simp only[World.putObj,Array.size_setIfInBounds];omega
    ·have hbl:b≠l:=by omega
     obtain⟨f1,g1⟩:=invA.mP (w0:=W) (G0:=G') DT DT DT hb2 hb3;obtain⟨f2,g2⟩:=inv3.mP (w0:=w2) (G0:=G1) rfl rfl rfl Aa g1;exact⟨by rw[World.putObj_heap_other hbl,f2,hoth b hbl,f1],g2⟩
    ·have:=inv3.tag b hb
     simp only[World.putObj,Array.size_setIfInBounds];exact this
    ·have a1:w3.os=w2.os:=inv3.os
     have a2:w2.os=w1.os:=by rw[hw2];rfl
     have a3:w1.os=W.os:=by have:=invA.os;rw[hΦr]at this;exact this
     exact a1.trans (a2.trans a3)
    ·have a1:w3.tape=w2.tape:=inv3.tape
     have a2:w2.tape=w1.tape:=by rw[hw2];rfl
     have a3:w1.tape=W.tape:=by have:=invA.tape;rw[hΦr]at this;exact this
     exact a1.trans (a2.trans a3)
    ·have a1:w3.output=w2.output:=inv3.output
     have a2:w2.output=w1.output:=by rw[hw2];rfl
     have a3:w1.output=W.output:=by have:=invA.output;rw[hΦr]at this;exact this
     exact a1.trans (a2.trans a3)
   cases e with
   |normal=>
    obtain⟨p',hle',hI'⟩:=hq2;obtain⟨G3,inv3⟩:=hle'.out invE;obtain⟨w4,r1,r2,r3,r4,r5,r6,r7⟩:=fin none _ G3 inv3;exact⟨_,w4,r1, .inl ⟨rfl,G3,⟨p',hI',r2,r3,r4,r5,r6⟩,r7⟩⟩
   |ret=>
    obtain⟨w4,r1,r2,r3,r4,r5,r6,r7⟩:=fin (some .ret) _ G2 invE;exact⟨_,w4,r1, .inr ⟨rfl,G2,⟨.ret, .ret,_, .inl ⟨rfl,rfl⟩,hq2,r2,r3,r4,r5,r6⟩,r7⟩⟩
   |exit id=>
    obtain⟨w4,r1,r2,r3,r4,r5,r6,r7⟩:=fin (some (.exit id)) _ G2 invE;exact⟨_,w4,r1, .inr ⟨rfl,G2,⟨.exit id, .exit id,_, .inr ⟨id,rfl,rfl⟩,hq2,r2,r3,r4,r5,r6⟩,r7⟩⟩
   |goto t=>exact(hq2:False).elim
   |panic c=>exact(hq2:False).elim
   |outgrown=>exact(hq2:False).elim
  |ret=>exact(hq1:False).elim
  |exit id=>exact(hq1:False).elim
  |goto t=>exact(hq1:False).elim
  |panic c=>exact(hq1:False).elim
  |outgrown=>exact(hq1:False).elim
 ·
  have mk:∀ {W:World} {G':Gh} {σ2:St} {pe:Option Code} {sta:LoopState},W.heap[l]? =some (.loop (rec sta pe))->sta≠ .busy->W.heap[D]? =some (.deferred (some []))->G'.O l= .ext->G'.O D= .ext->Inv T Φ σ2 a W G'->
   ∃w4,(Instr.endLoop l).run P W= .ok pe w4/\Inv T {Φ with ds:=[mark D] ++Φ.ds} σ2 {a with defers:=[mark D] ++a.defers} w4 G'/\Marks Φ.w0 w4 G' [mark D] :=by
   intro W G' σ2 pe sta hL hs hK ol oD inv';have hr:=run_endLoop (P:=P) hL (by rw[hrec];exact hs)
   refine⟨_,by rw[hrec]at hr;exact hr,(inv'.quiet (aF9 ol hl0)).aQ1 _ rfl rfl rfl rfl rfl rfl (by rw[inv'.nd]) inv'.kp,[D],rfl,Ae,fun D' hD'=>?_⟩
   rw[List.mem_singleton.1 hD'];exact⟨hD0,(World.putObj_heap_other hDl).trans hK,oD⟩
  rintro e W ⟨⟨v,rfl⟩,(⟨G',p,hI,inv',hL,hK,ol,oD⟩|⟨G',c,e,σ2,hc,hq,inv',hL,hK,ol,oD⟩)⟩
  ·obtain⟨w4,r1,r2,r3⟩:=mk hL Ae hK ol oD inv'
   exact⟨none,w4,r1,[mark D],st p,G',hend p hI,r2,r3⟩
  ·obtain⟨w4,r1,r2,r3⟩:=mk hL Ae hK ol oD inv'
   refine⟨some c,w4,r1,?_⟩;rcases hc with⟨rfl,rfl⟩|⟨i,rfl,rfl⟩
   ·exact wpIn_ret ⟨[mark D],σ2,G',hq,r2,r3⟩
   ·exact wpIn_exit ⟨[mark D],σ2,G',hq,r2,r3⟩
end
end Go.Ab
