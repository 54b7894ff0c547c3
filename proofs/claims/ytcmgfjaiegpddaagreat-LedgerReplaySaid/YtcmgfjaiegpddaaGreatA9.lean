/- Lemmas. -/
import Derived.Test.YtcmgfjaiegpddaaGreatA8
import Derived.RangeFuncIn
set_option linter.all false
noncomputable section
namespace Go.Ab
def Real(T:Tab)(Φ:Fr)(σ:St):Prop:=∃a w G,Inv T Φ σ a w G
section
variable{T:Tab}{P:Program}{Φ:Fr}{σ:St}{a:Act}{w w':World}{G G':Gh}{o:Oper}{d:Nat}{v:V}{ms:List Mod}{ops:List Oper}{K:St->Prop}{hv:List (Nat×List Nat)}
theorem Real.wf(h:Real T Φ σ)(x:Operand):(σ.ev x).ok σ.hasB σ.hasA:=by
 obtain⟨a,w,G,inv⟩:=h;exact(inv.ev x).2
def bW2(hT:bP T P)(hr:Real T Φ σ)(hd:∀d,o.dst=some d->Φ.wr d)(h:bW T P (.drawn hv) σ d o.op (Is v ms)):Real T Φ (σ.put o.dst v ms):=by
 obtain⟨a,w,G,inv⟩:=hr;unfold bW at h;split at h;rename_i f as y k;rw[bC,dU]at h;obtain⟨m,hcalls⟩:=bF2 inv as h;exact Nw;split at h;rename_i g j i;obtain⟨b,h⟩:=aT h;rw[bC,dU]at h;obtain⟨q,r,n,m,hcalls⟩:=aX3 inv i b h;exact Nw;exact h.elim;rename_i t x lo hi s k;exact MX;rename_i l t x c u k;exact MX;obtain⟨v',w1,v1,ms1,G',hr,⟨rfl,rfl⟩,inv',hv,hvo⟩:=xQ hT inv o h;exact⟨_,_,_,Inv.put' _ inv' hd hv hvo⟩
def dY4(i:bP T P)(f:Real T Φ σ)(e:∀d,o.dst=some d->Φ.keep d=none)(h:Eff T P hv Φ.n ops o σ v ms):Real T Φ (σ.put o.dst v ms):=by
 unfold Eff at h;obtain⟨j,c⟩:=h;have b:∀d,o.dst=some d->Φ.wr d:=λd h=>⟨j d h,e d h⟩;split at c;exact bW2 i f b c;obtain⟨s,l,g⟩:=c;rcases g with⟨g,k⟩|⟨g,rfl,rfl⟩;exact bW2 i f b k;obtain⟨a,w,G,inv⟩:=f;exact⟨_,_,_,Inv.put' [] inv b (xK w G) DL⟩
def RunI(T:Tab)(P:Program)(hv:List (Nat×List Nat))(n:Nat)(ops:List Oper):List Nat->St->(St->Prop)->Prop
 | [],σ,K=>K σ
 |i::r,σ,K=>∃o v ms,ops[i]? =some o/\Eff T P hv n ops o σ v ms/\RunI T P hv n ops r (σ.put o.dst v ms) K
def Compat(cl:List (Nat×Nat))(hv:List (Nat×List Nat))(ops:List Oper)(j i:Nat):Prop:=∀p o,ops[j]? =some p->ops[i]? =some o->Oper.apart ops.toArray p o=true/\(clash (clsH hv p) (clsH hv o)=false\/((aM7 cl p.op o.op=true\/fL7 cl p.op o.op=true\/fY1 p.op o.op=true)/\hvO hv p=false/\hvO hv o=false)\/dJ2 cl hv p o=true)
def front(C:bP T P)(t:∀o∈ops,∀d,o.dst=some d->Φ.keep d=none){z:List (Nat×Nat)}(A:∀o∈ops,aL7 T z o=true){i:Nat}{F:List Nat}:∀(x:List Nat) (σ:St),Real T Φ σ->Good z σ->(∀j∈x,Compat z hv ops j i)->RunI T P hv Φ.n ops (x++i::F) σ K->
 ∃o v ms,ops[i]? =some o/\Eff T P hv Φ.n ops o σ v ms/\RunI T P hv Φ.n ops (x++F) (σ.put o.dst v ms) K:=by
 intro x;induction x with
 |nil=>intro σ _ _ _ h;exact h
 |cons j r I=>
  intro σ g s D h;obtain⟨p,v,ms,u,f,h⟩:=h;obtain⟨o,v',l,E,c,h⟩:=I _ (dY4 C g (t p (Pn u)) f) (cG5 g.wf s (A p (Pn u)) f) (λk H=>D k (by simp[H])) h;obtain⟨m,b⟩:=D j Af p o u E
  obtain⟨J,L,M⟩:Eff T P hv Φ.n ops o σ v' l/\Eff T P hv Φ.n ops p (σ.put o.dst v' l) v ms/\(σ.put p.dst v ms).put o.dst v' l=(σ.put o.dst v' l).put p.dst v ms:=by
   rcases b with b|⟨b,q,y⟩|b
   ·exact swap g.wf m b f c
   rcases b with b|b|b;exact dL0 q y g.wf s m b f c;exact gE0 q y g.wf (dY4 C g (t p (Pn u)) f).wf s m b f c;exact gJ0 q y g.wf m b f c;unfold dJ2 at b;rw[QG,QG,QG,QG]at b;rcases b with((b|b)|(b|b))|b;rotate_left 4;rw[Px]at b;cases e:blOf hv p with
   |none=>rw[e]at b;exact Bool.noConfusion b.2
   |some B=>
    rcases QG _ _▸b.1 with q|q;exact swap_hl g.wf m e q f c;exact swap_hn m e q f c
   rotate_left 2;exact eR7 g.wf m b f c;exact eO9 g.wf m b f c;split at b;rename_i B e;exact eM0 g.wf s m e b f c;cases b;split at b;rename_i B e;exact eS5 g.wf s m e b f c;cases b
  refine⟨o,v',l,E,J,p,v,ms,u,L,?_⟩;rw[<-M];exact h
theorem eA9(K:St->Prop):∀(l:List Oper) (k:Nat) (σ:St),(∀j,l[j]? =ops[k+j]?)->Run T P (.drawn hv) Φ.n ops l σ K->RunI T P hv Φ.n ops (List.range' k l.length) σ K:=by
 intro l;induction l with
 |nil=>intro k σ _ h;exact h
 |cons o r f=>
  intro k σ c h;obtain⟨v,ms,e,h⟩:=eI5 h;have b:=c 0;simp only[List.getElem?_cons_zero,Rq]at b;refine⟨o,v,ms,b.symm,e,?_⟩;refine f (k+1) _ (λj=>?_) h;have:=c (j+1);grind
theorem bL5{ms:List Nat}{o:Oper}{j:Nat}(h:(bW4 ms o).testBit j=true):∃e∈o.after,Region.binds .any e=true/\(j=e.on\/(ms.getD e.on 0).testBit j=true):=by
 unfold bW4 at h;rw[<-Array.foldl_toList]at h
 have gen:∀(l:List Edge) (m:Nat),(l.foldl (λm e=>if Region.binds .any e then m|||2^e.on|||ms.getD e.on 0 else m) m).testBit j=true->m.testBit j=true\/∃e∈l,Region.binds .any e=true/\(j=e.on\/(ms.getD e.on 0).testBit j=true):=by
  intro l;induction l with
  |nil=>intro m h;exact .inl h
  |cons e r f=>
   intro m h;rw[QO]at h;rcases f _ h with h|⟨c,b,h⟩;grind;exact .inr ⟨c,by simp[b],h⟩
 grind
def cI3{L R:Nat->Prop}(t:∀i o,ops[i]? =some o->R i->∀e∈o.after,Region.binds .any e=true->L e.on)(g:∀i,L i->R i):
 ∀(l b:List Oper) (ms:List Nat),ops=b++l->ms.length=b.length->(∀k j,R k->(ms.getD k 0).testBit j=true->L j)->
  ∀k j,R k->((l.foldl (λms o=>ms++[bW4 ms o]) ms).getD k 0).testBit j=true->L j:=by
 intro l;induction l with
 |nil=>intro b ms _ _ h;exact h
 |cons o r q=>
  intro b ms f c h;rw[QO];refine q (b++[o]) _ (by simp[f]) (by simp[c]) ?_;intro k j n s;by_cases e:k=ms.length;grind [bL5];refine h k j n ?_;rcases Qx k ms.length with p|m;grind;grind
def qX{b:List (Nat×Nat)}(h:oO T b hv ops=true):(∀o∈ops,aL7 T b o=true)/\∀(k:Nat) (o:Oper),ops[k]? =some o->(∀e∈o.after,Region.binds .any e=true->e.on<k)/\
 ∀(i:Nat) (p:Oper),i<k->ops[i]? =some p->((masks ops).getD k 0).testBit i=true\/(Oper.apart ops.toArray p o=true/\(clash (clsH hv p) (clsH hv o)=false\/((aM7 b p.op o.op=true\/fL7 b p.op o.op=true\/fY1 p.op o.op=true)/\hvO hv p=false/\hvO hv o=false)\/dJ2 b hv p o=true)):=by
 unfold oO at h;simp only[QR,Px]at h;refine⟨h.1,?_⟩;intro k o j;have c:=h.2 (o,k) (List.mem_zipIdx_iff_getElem?.2 j);simp only[Px,QR,Rk]at c;refine⟨λe g f=>?_,λi p hi l=>?_⟩
 ·have:=c.1.1 e g
  simp[f]at this;exact this
 ·have:=c.2 (p,i) (List.mem_zipIdx_iff_getElem?.2 (by rw[List.getElem?_take_of_lt hi];exact l))
  simp only[QG,Px,RI]at this;grind
def rem(n:Nat)(listed:Array Bool):List Nat:=(List.range n).filter λi=> !listed.getD i true
theorem aF4{n:Nat}{b:Array Bool}{i:Nat}:i∈rem n b↔i<n/\b.getD i true=false:=by
 simp[rem]
def cI0{c:Array Bool}{i j:Nat}{b:Bool}(hi:i<c.size):(c.setIfInBounds i true).getD j b=if j=i then true else c.getD j b:=by
 rw[Qy,Qy,Array.getElem?_setIfInBounds];grind
def eP7{n:Nat}{b:Array Bool}{i:Nat}(hi:i<b.size){c f:List Nat}(h:rem n b=c++i::f):rem n (b.setIfInBounds i true)=c++f:=by
 have k:rem n (b.setIfInBounds i true)=(rem n b).filter λj=> !decide (j=i):=by
  unfold rem;rw[List.filter_filter];apply List.filter_congr;intro j _;rw[cI0 hi];by_cases e:j=i<;>simp[e]
 have g:(rem n b).Nodup:=List.Pairwise.filter _ List.nodup_range;grind [List.nodup_append,List.filter_eq_self,List.nodup_cons]
def dQ0(hT:bP T P)(ro:Option Nat)(M:∀o∈ops,∀d,o.dst=some d->Φ.keep d=none){c:Array Oper}(hA:c.toList=ops){H:List (Nat×Nat)}(V:oO T H hv ops=true){Q:Exit->Act->World->Prop}(hQ:∀σ' A w' G',K σ'->Inv T Φ σ' A w' G'->Q .normal A w'):
 ∀(f:Nat) (b:Array Bool) (σ:St) (a:Act) (w:World) (G:Gh),Inv T Φ σ a w G->Good H σ->b.size=ops.length->
  (∀i o,ops[i]? =some o->b.getD i true=true->∀e∈o.after,Region.binds .any e=true->b.getD e.on false=true)->
  (rem ops.length b).length<=f->RunI T P hv Φ.n ops (rem ops.length b) σ K->wpAnyIn (FW ro) 0 P .any c Q f b a w:=by
 have ad:c.size=ops.length:=GY;have x:∀i,c[i]? =ops[i]? :=λi=>by rw[<-hA,Sl]
 have g:∀(b:Array Bool) i,i∈Region.ready .any c b↔(i∈rem ops.length b/\∃o,ops[i]? =some o/\∀e∈o.after,Region.binds .any e=true->b.getD e.on false=true):=by
  intro b i;unfold Region.ready;rw[List.mem_filter,Qh,aF4,ad,x];cases h:ops[i]? with
  |none=>simp
  |some o=>
   simp only[Px,RI,Qg,QT,Rk];grind
 have ab:∀(b:Array Bool),b.size=ops.length->Region.ready .any c b=[]->rem ops.length b=[] :=by
  intro b t m;cases z:rem ops.length b with
  |nil=>rfl
  |cons i r=>
   exfalso;have hi:i∈rem ops.length b:=by rw[z];simp
   obtain⟨h1,h2⟩:=aF4.1 hi;have u:(rem ops.length b).Pairwise (·<·):=List.Pairwise.filter _ List.pairwise_lt_range;rw[z]at u
   have y:i∈Region.ready .any c b:=by
    rw[g];refine⟨hi,ops[i],FZ,λe F E=>?_⟩;have aj:=((qX V).2 i ops[i] FZ).1 e F E;cases U:b.getD e.on false with
    |true=>rfl
    |false=>
     exfalso
     have hm:e.on∈rem ops.length b:=aF4.2 ⟨Aa,by
      have N:e.on<b.size:=Aa;simp[N]at U⊢;exact U⟩
     grind [Ro]
   rw[m]at y;cases y
 intro f;induction f with
 |zero=>
  intro b σ a w G inv _ t Y l h;have h0:rem ops.length b=[] :=PV.1 Aa;rw[h0]at h;refine⟨?_,hQ σ a w G h inv⟩;simp_all [List.eq_nil_iff_forall_not_mem]
 |succ f ih=>
  intro b σ a w G inv I t Y l h;refine⟨λm=>?_,λi hi=>?_⟩;rw[ab b t m]at h;exact hQ σ a w G h inv;obtain⟨J,o,C,O⟩:=(g b i).1 hi;obtain⟨af,ag⟩:=aF4.1 J;obtain⟨W,l2,s⟩:=List.append_of_mem J;have u:(rem ops.length b).Pairwise (·<·):=List.Pairwise.filter _ List.pairwise_lt_range;rw[s]at u
  have B:∀j∈W,Compat H hv ops j i:=by
   intro j hj p o' hp q;rw[C]at q;cases q;have Z:j<i:=(Rt.1 u).2.2 j hj i Af;rcases((qX V).2 i o C).2 j p Z hp with E|E;exfalso;have aa:j∈rem ops.length b:=by rw[s];simp[hj]
   have ah:=(aF4.1 aa).2
   have:=cI3 (ops:=ops) (L:=λk=>b.getD k false=true) (R:=λk=>b.getD k false=true\/k=i) (by
    rintro k o' hk (hR|rfl) e F X;grind;rw[C]at hk;cases hk
    exact O e F X) (λk hk=> .inl hk) ops [] [] rfl rfl Af i j (.inr rfl) E
   grind;exact E
  rw[s]at h;obtain⟨o',v,ms,q,F,D⟩:=front hT M (qX V).1 W σ ⟨a,w,G,inv⟩ I B h;rw[C]at q;cases q;have ac:=eE8 (K:=λσ'=>RunI T P hv Φ.n ops (W++l2) σ' K/\Good H σ') F ⟨D,cG5 (Real.wf ⟨a,w,G,inv⟩) I ((qX V).1 o (Pn C)) F⟩;have hwp:=bZ3 hT inv hA (M o (Pn C)) ac (Q:=Q) ro;have S:=eP7 (n:=ops.length) (by omega:i<b.size) s
  have next:∀A w' σ' G',(RunI T P hv Φ.n ops (W++l2) σ' K/\Good H σ')->Inv T Φ σ' A w' G'->wpAnyIn (FW ro) 0 P .any c Q f (b.setIfInBounds i true) A w':=by
   intro A w' σ' G' hk inv';refine ih _ σ' A w' G' inv' hk.2 (by simp[t]) ?_ ?_ ?_;intro k ok ai U e ae E;rw[cI0 Aa]at U⊢;grind;rw[S];rw[s]at l;simp at l⊢;omega;rw[S];exact hk.1
  unfold wpOpIn;rw[x,C];simp only;split;rename_i hw;rw[Pm hw]at hwp;grind [Oper.wpIn_mono];exact JI
def bC4(q:bP T P)(l:Option Nat)(s:P.follows .mixedOrders=true){ops:List Oper}{K:St->Prop}{b:Array Oper}(hA:b.toList=ops)(g:∀o∈ops,∀d,o.dst=some d->Φ.keep d=none){k:List (Nat×Nat)}(t:oO T k hv ops=true)(f:Good k σ){Q:Exit->Act->World->Prop}(m:∀e j w' G',K e->Inv T Φ e j w' G'->Q .normal j w')(id:Nat)
 (inv:Inv T Φ σ a w G)(h:Run T P (.drawn hv) Φ.n ops ops σ K):(Code.region id b true).wpIn (FW l) 0 P Q a w:=by
 have c:b.size=ops.length:=GY;refine wpIn_region_any s (dQ0 q l g hA t m _ _ σ a _ G (inv.drew _) f (by simp[c]) ?_ ?_ ?_)
 ·intro i o hi r
  have:i<ops.length:=(Pg.1 hi).1;simp[c,this]at r
 ·refine PD (List.length_filter_le _ _) ?_
  simp[c]
 ·have:rem ops.length (Array.replicate b.size false)=List.range' 0 ops.length:=by
   unfold rem;rw[List.range_eq_range'];simp_all
  grind [eA9]
theorem readyR_mem{L:List Nat}:∀ {l:List Oper} {k i:Nat},i∈readyR L l k↔k<=i/\∃o,l[i-k]? =some o/\i∉L/\∀e∈o.after.toList,Region.binds .any e=true->e.on∈L
 | [],k,i=>by constructor<;>intro h<;>simp_all [readyR]
 |o::l,k,i=>by
  have u:=readyR_mem (L:=L) (l:=l) (k:=k+1) (i:=i)
  have t:∀b:Bool,b=allR (λe=>cond (Region.binds .any e) (memR e.on L) true) o.after.toList->(b=true↔∀e∈o.after.toList,Region.binds .any e=true->e.on∈L):=by
   intro b f;rw[f,eL7,QR];constructor;intro h e m f;have:=h e m;rw[f]at this;exact pM.1 this;intro h e m;cases f:Region.binds .any e with
   |true=>exact pM.2 (h e m f)
   |false=>rfl
  have hi:i∈readyR L (o::l) k↔(i=k/\k∉L/\∀e∈o.after.toList,Region.binds .any e=true->e.on∈L)\/i∈readyR L l (k+1):=by
   show i∈cond (memR k L) (readyR L l (k+1)) (cond (allR (λe=>cond (Region.binds .any e) (memR e.on L) true) o.after.toList) (k::readyR L l (k+1)) (readyR L l (k+1)))↔_;have c:=t _ rfl;cases n:memR k L with
   |true=>
    have:=pM.1 n;simp[this]
   |false=>
    have:k∉L:=λh=>by rw[pM.2 h]at n;cases n
    cases s:allR (λe=>cond (Region.binds .any e) (memR e.on L) true) o.after.toList with
    |true=>simp only[Qu,Qo,P5];grind
    |false=>
     have:¬∀e∈o.after.toList,Region.binds .any e=true->e.on∈L:=λh=>by rw[c.2 h]at s;cases s
     simp only[Qu];grind
  rw[hi,u];constructor;rintro(⟨rfl,j,c⟩|⟨j,q,c,g⟩);exact⟨Po _,o,Af,j,c⟩;refine⟨Aa,q,?_,g⟩;rw[show i-k=(i- (k+1))+1 from Aa,Qi];exact c;rintro⟨j,q,c,g,r⟩;by_cases e:i=k;subst e;simp at c;subst c;exact .inl ⟨rfl,g,r⟩;right;rw[show i-k=(i- (k+1))+1 from Aa,Qi]at c;exact⟨Aa,q,c,g,r⟩
def andR_mem{f:Nat->Prop}:∀ {l:List Nat},andR f l->∀i∈l,f i
 | [],_,i,hi=>by cases hi
 | [j],h,i,hi=>by rw[Py.1 hi];exact h
 |j::k::r,h,i,hi=>by
  have b:bothVC (f j) (andR f (k::r)):=h;rcases P5.1 hi with rfl|hi;exact b.out.1;exact andR_mem b.out.2 i hi
def all_sound(S:bP T P)(N:Option Nat)(J:∀o∈ops,∀d,o.dst=some d->Φ.keep d=none){c:Array Oper}(hA:c.toList=ops){Q:Exit->Act->World->Prop}(O:∀σ' u w' G',K σ'->Inv T Φ σ' u w' G'->Q .normal u w'):
 ∀(f:Nat) (L:List Nat) (b:Array Bool) (σ:St) (a:Act) (w:World) (G:Gh),Inv T Φ σ a w G->b.size=ops.length->(∀i,b.getD i false=true↔i∈L)->treeVC T P Φ.n ops f L σ.env σ.bx σ.ar K->wpAnyIn (FW N) 0 P .any c Q f b a w:=by
 have E:c.size=ops.length:=GY;have m:∀i,c[i]? =ops[i]? :=λi=>by rw[<-hA,Sl]
 have g:∀(L:List Nat) (b:Array Bool),b.size=ops.length->(∀i,b.getD i false=true↔i∈L)->∀i,i∈Region.ready .any c b->i∈readyR L ops 0:=by
  intro L b q y i hi;unfold Region.ready at hi;rw[List.mem_filter,Qh,E,m]at hi;obtain⟨h1,B⟩:=hi;have z:i<b.size:=Aa;rw[readyR_mem];refine⟨P8 _,ops[i],FZ,?_⟩;rw[Pj h1]at B;simp only[Qg,QT,Px,RI,Rk,QG]at B;refine⟨λs=>?_,λe I H=>?_⟩;have:=(y i).2 s;have C:=B.1;simp[z]at this C;rw[this]at C;cases C;have:=B.2 e (by simpa using I);rw[H]at this;exact(y e.on).1 (by simpa using this)
 intro f;induction f with
 |zero=>
  intro L b σ a w G inv q y h;have x:(match readyR L ops 0 with| [] =>K ⟨σ.env,σ.bx,σ.ar⟩|_::_=>False):=h;cases A:readyR L ops 0 with
  |nil=>
   rw[A]at x;refine⟨?_,O σ a w G x inv⟩;refine List.eq_nil_iff_forall_not_mem.2 λi hi=>?_;have:=g L b q y i hi;rw[A]at this;cases this
  |cons i r=>rw[A]at x;exact x.elim
 |succ f V=>
  intro L b σ a w G inv q y h
  have x:(match readyR L ops 0 with
   | [] =>K ⟨σ.env,σ.bx,σ.ar⟩
   |i::r=>andR (λi=>match nth ops i with|some o=>bH0 T P .free Φ.n ops o (treeVC T P Φ.n ops f (i::L)) σ.env σ.bx σ.ar K|none=>False) (i::r)):=h
  refine⟨λD=>?_,λi hi=>?_⟩;cases A:readyR L ops 0 with
  |nil=>rw[A]at x;exact O σ a w G x inv
  |cons i r=>
   exfalso;have s:i∈readyR L ops 0:=by rw[A];simp
   rw[readyR_mem]at s;obtain⟨_,o,h1,B,C⟩:=s;have z:i<ops.length:=(Pg.1 FC).1
   have:i∈Region.ready .any c b:=by
    unfold Region.ready;rw[List.mem_filter,Qh,E,m];refine⟨z,?_⟩;have l:ops[i]? =some o:=FC;rw[l];simp only[Qg,QT,Px,RI,Rk,QG];refine⟨?_,λe I=>?_⟩;cases R:b.getD i true with
    |false=>rfl
    |true=>
     exfalso;have U:i<b.size:=Aa;refine B ((y i).1 ?_);simp[U]at R⊢;exact R
    cases H:Region.binds .any e with
    |false=>exact .inl rfl
    |true=>exact .inr ((y e.on).2 (C e (by simpa using I) H))
   rw[D]at this;cases this
  have s:=g L b q y i hi
  have t:(match nth ops i with|some o=>bH0 T P .free Φ.n ops o (treeVC T P Φ.n ops f (i::L)) σ.env σ.bx σ.ar K|none=>False):=by
   cases A:readyR L ops 0 with
   |nil=>rw[A]at s;cases s
   |cons j r=>rw[A]at x s;exact andR_mem x i s
  rw[readyR_mem]at s;obtain⟨_,o,h1,B,C⟩:=s;have l:ops[i]? =some o:=FC;have z:i<ops.length:=(Pg.1 l).1;rw[uN,l]at t;have M:=aX6 (σ:=σ) t;have hwp:=bZ3 S inv hA (J o (Pn l)) M (Q:=Q) N
  have F:∀k,(b.setIfInBounds i true).getD k false=true↔k∈i::L:=by
   intro k;rw[cI0 Aa,P5];by_cases e:k=i;simp[e];rw[Ph e,y k];simp[e]
  have next:∀u w' σ' G',treeVC T P Φ.n ops f (i::L) σ'.env σ'.bx σ'.ar K->Inv T Φ σ' u w' G'->wpAnyIn (FW N) 0 P .any c Q f (b.setIfInBounds i true) u w':=λu w' σ' G' hk inv'=>V _ _ σ' u w' G' inv' (by simp[q]) F hk
  unfold wpOpIn;rw[m,l];simp only;split
  ·rename_i hw
   rw[Pm hw]at hwp;exact Oper.wpIn_mono (λu w' ⟨σ',G',hk,inv'⟩=>next u w' σ' G' hk inv') hwp
  exact JI
def tree_sound(l:bP T P)(j:Option Nat)(m:P.follows .mixedOrders=true){ops:List Oper}{K:St->Prop}{b:Array Oper}(hA:b.toList=ops)(e:∀o∈ops,∀d,o.dst=some d->Φ.keep d=none){Q:Exit->Act->World->Prop}(k:∀c g w' G',K c->Inv T Φ c g w' G'->Q .normal g w')(id:Nat)
 (inv:Inv T Φ σ a w G)(h:treeVC T P Φ.n ops ops.length [] σ.env σ.bx σ.ar K):(Code.region id b true).wpIn (FW j) 0 P Q a w:=by
 have f:b.size=ops.length:=GY;refine wpIn_region_any m ?_;rw[f];refine all_sound l j e hA k _ [] _ σ a _ G (inv.drew _) Af (λi=>?_) h;simp[Array.getD]
end
section
variable{T:Tab}{P:Program}{Φ Φ' Φ2:Fr}{σ σ0:St}{a a0:Act}{w w' w0:World}{G G' G0:Gh}
def dP9{l:List Oper}{o:Oper}{d:Nat}(h:o∈l)(b:o.dst=some d):d∈dG4 l:=by
 induction l with
 |nil=>cases h
 |cons x r c=>
  show d∈(match x.dst with|some d=>d::dG4 r|none=>dG4 r);grind
def Fr.at(Φ:Fr)(w:World)(G:Gh):Fr:={Φ with w0:=w,given:=λb=>G.O b≠ .fz/\G.O b≠ .ext,F0:=λb=>G.O b= .fz}
structure Later(Φ Φ':Fr):Prop where
 size:Φ.w0.heap.size<=Φ'.w0.heap.size
 os:Φ'.w0.os=Φ.w0.os
 tape:Φ'.w0.tape=Φ.w0.tape
 output:Φ'.w0.output=Φ.w0.output
 given:∀b,Φ'.given b->Φ.mine b
 F0:∀b,Φ.F0 b->Φ'.F0 b
 fz:∀b,Φ'.F0 b->Φ.F0 b\/Φ.mine b
 frame:∀b,b<Φ.w0.heap.size->¬Φ.given b->Φ'.w0.heap[b]? =Φ.w0.heap[b]?
 n:Φ'.n=Φ.n
 arg:Φ'.arg=Φ.arg
 argb:Φ'.argb=Φ.argb
theorem Later.mine(h:Later Φ Φ'){b:Nat}(c:Φ'.mine b):Φ.mine b:=by
 rcases c with c|c;exact .inl (PD h.size c);exact h.given b c
def Later.trans(h:Later Φ Φ')(h2:Later Φ' Φ2):Later Φ Φ2 where
 size:=PD h.size h2.size
 os:=h2.os.trans h.os
 tape:=h2.tape.trans h.tape
 output:=h2.output.trans h.output
 given b hb:=h.mine (h2.given b hb)
 F0 b hb:=h2.F0 b (h.F0 b hb)
 fz b hb:=by
  rcases h2.fz b hb with q|q;exact h.fz b q;exact .inr (h.mine q)
 frame b hb hg:=by
  have hg':¬Φ'.given b:=λq=>by
   rcases h.given b q with q|q;omega;exact hg q
  exact(h2.frame b (QW hb h.size) hg').trans (h.frame b hb hg)
 n:=h2.n.trans h.n
 arg:=h2.arg.trans h.arg
 argb:=h2.argb.trans h.argb
def Later.of(h1:Φ'.w0=Φ.w0)(h2:Φ'.given=Φ.given)(h3:Φ'.F0=Φ.F0)(h4:Φ'.n=Φ.n)(h5:Φ'.arg=Φ.arg)(h6:Φ'.argb=Φ.argb):Later Φ Φ' where
 size:=by rw[h1];exact Po _
 os:=by rw[h1]
 tape:=by rw[h1]
 output:=by rw[h1]
 given b hb:= .inr (by rw[<-h2];exact hb)
 F0 b hb:=by rw[h3];exact hb
 fz b hb:= .inl (by rw[<-h3];exact hb)
 frame b _ _:=by rw[h1]
 n:=h4
 arg:=h5
 argb:=h6
structure Quiet(Φ:Fr)(w w':World)(G:Gh):Prop where
 size:w.heap.size<=w'.heap.size
 same:∀b,G.O b≠ .ext->w'.heap[b]? =w.heap[b]?
 old:∀b,b<Φ.w0.heap.size->w'.heap[b]? =w.heap[b]?
 os:w'.os=w.os
 tape:w'.tape=w.tape
 output:w'.output=w.output
def Inv.quiet(inv:Inv T Φ σ a w G)(q:Quiet Φ w w' G):Inv T Φ σ a w' G:=
 inv.change rfl ⟨λ_ h=>h,λb h=>q.same b Ed⟩ (λ_ _=>rfl) (λ_ _ _=>rfl) (λ_ h=>h) (λ_ _ h=>h)
  (λi cs hi=> .inl ⟨hi,(inv.box i cs hi).choose_spec.choose_spec.2.2,q.same _ (by rw[(inv.box i cs hi).choose_spec.choose_spec.2.2];simp)⟩)
  (λk en c=> .inl ⟨c,λb hb=>⟨hb,q.same b Aw⟩⟩)
  (λb hb=>QW (inv.tag b hb) q.size) (λ_=> .inl rfl)
  (λb=>by
   rcases Qx b Φ.w0.heap.size with h|h;exact .inl (q.old b h)
   exact .inr (.inl h))
  q.size q.os q.tape q.output
theorem Inv.mine(inv:Inv T Φ σ a w G){b:Nat}(h:G.O b≠ .fz)(d:G.O b≠ .ext):Φ.mine b:=by
 cases c:G.O b with
 |ext=>exact absurd c d
 |fz=>exact absurd c h
 |bx i=>exact inv.mineB b i c
 |ar k=>exact inv.mineA b k c
def Inv.up(inv:Inv T Φ σ a w G):Inv T (Φ.at w G) σ a w G where
 nd:=inv.nd
 kp:=inv.kp
 sz:=inv.sz
 env:=inv.env
 wfE:=inv.wfE
 box:=inv.box
 wfB:=inv.wfB
 arr:=inv.arr
 wfA:=inv.wfA
 tag:=inv.tag
 mineB b i h:= .inr ⟨Ed,Ed⟩
 mineA b k h:= .inr ⟨Ed,Ed⟩
 fzm b h:= .inl h
 F0 b h:=h
 frame b _ _:=rfl
 size:=Po _
 os:=rfl
 tape:=rfl
 output:=rfl
 args:=inv.args
 lay:=by
  refine⟨T.lay_mono (λb hb=>⟨inv.F0 b hb,inv.frame b (inv.lay.2 b hb).1 (inv.lay.2 b hb).2⟩) inv.lay.1,λb hb=>⟨inv.tag b (by rw[show G.O b= .fz from hb];simp),λh=>h.1 hb⟩⟩
 argb:=inv.argb
def Inv.aF0(inv:Inv T Φ σ a w G):Later Φ (Φ.at w G)where
 size:=inv.size
 os:=inv.os
 tape:=inv.tape
 output:=inv.output
 given b hb:=inv.mine hb.1 hb.2
 F0 b hb:=inv.F0 b hb
 fz b hb:=inv.fzm b hb
 frame b hb hg:=inv.frame b hb hg
 n:=rfl
 arg:=rfl
 argb:=rfl
def Inv.down(inv0:Inv T Φ σ0 a0 w0 G0)(hl:Later Φ Φ')(inv:Inv T Φ' σ a w G)(h1:Φ2.w0=Φ.w0)(h2:Φ2.given=Φ.given)(h3:Φ2.F0=Φ.F0)(h4:Φ2.n=Φ.n)(h5:Φ2.arg=Φ.arg)(h6:Φ2.argb=Φ.argb)(h7:Φ2.ds=Φ'.ds)(h8:Φ2.keep=Φ'.keep):Inv T Φ2 σ a w G where
 nd:=by rw[h7];exact inv.nd
 kp:=by rw[h8];exact inv.kp
 sz:=by rw[h4,<-hl.n];exact inv.sz
 env:=inv.env
 wfE:=inv.wfE
 box:=inv.box
 wfB:=inv.wfB
 arr:=inv.arr
 wfA:=inv.wfA
 tag:=inv.tag
 mineB b i h:=by
  have:=hl.mine (inv.mineB b i h);unfold Fr.mine at*;rw[h1,h2];exact this
 mineA b k h:=by
  have:=hl.mine (inv.mineA b k h);unfold Fr.mine at*;rw[h1,h2];exact this
 fzm b h:=by
  have:Φ.F0 b\/Φ.mine b:=by
   rcases inv.fzm b h with q|q;exact hl.fz b q;exact .inr (hl.mine q)
  unfold Fr.mine at*;rw[h1,h2,h3];exact this
 F0 b h:=inv.F0 b (hl.F0 b (by rw[<-h3];exact h))
 frame b hb hg:=by
  rw[h1]at hb⊢;rw[h2]at hg
  have hg':¬Φ'.given b:=λq=>by
   rcases hl.given b q with q|q;omega;exact hg q
  exact(inv.frame b (QW hb hl.size) hg').trans (hl.frame b hb hg)
 size:=by rw[h1];exact PD hl.size inv.size
 os:=by rw[h1];exact inv.os.trans hl.os
 tape:=by rw[h1];exact inv.tape.trans hl.tape
 output:=by rw[h1];exact inv.output.trans hl.output
 args:=by rw[h5,<-hl.arg];exact inv.args
 lay:=by rw[h1,h2,h3];exact inv0.lay
 argb:=by rw[h6,<-hl.argb];exact inv.argb
def Inv.nobody(inv:Inv T Φ σ a w G){b:Nat}(f:b<Φ.w0.heap.size)(e:¬Φ.given b)(g:¬Φ.F0 b):w.heap[b]? =Φ.w0.heap[b]? /\G.O b= .ext:=by
 have d:¬Φ.mine b:=λh=>by
  rcases h with h|h;omega;exact e h
 refine⟨inv.frame b f e,?_⟩;cases c:G.O b with
 |ext=>rfl
 |fz=>
  rcases inv.fzm b c with h|h;exact absurd h g;exact absurd h d
 |bx i=>exact absurd (inv.mineB b i c) d
 |ar k=>exact absurd (inv.mineA b k c) d
def Inv.mP{Φ:Fr}(inv:Inv T Φ σ a w G)(d:Φ.w0=w0)(e:Φ.given=λb=>G0.O b≠ .fz/\G0.O b≠ .ext)(f:Φ.F0=λb=>G0.O b= .fz){b:Nat}(g:b<w0.heap.size)(c:G0.O b= .ext):w.heap[b]? =w0.heap[b]? /\G.O b= .ext:=by
 have:=inv.nobody (b:=b) (by rw[d];exact g) (by rw[e];exact λh=>h.2 c) (by rw[f];exact λh=>by rw[show G0.O b= .fz from h]at c;cases c);rw[d]at this;exact this
def mark(D:Nat):Deferred:={target:= .collected D,args:= #[]}
def Marks(w0 w:World)(G:Gh)(ms:List Deferred):Prop:=
 ∃Ds:List Nat,ms=Ds.map mark/\Ds.Nodup/\∀D∈Ds,w0.heap.size<=D/\w.heap[D]? =some (.deferred (some []))/\G.O D= .ext
def Marks.nil(w0 w:World)(G:Gh):Marks w0 w G [] :=⟨[],rfl,List.nodup_nil,λD h=>Ag⟩
def Lift(T:Tab)(Φ:Fr)(Q:Exit->St->Prop)(e:Exit)(a:Act)(w:World):Prop:=∃ms σ G,Q e σ/\Inv T {Φ with ds:=ms++Φ.ds} σ a w G/\Marks Φ.w0 w G ms
def Lift.of{Q:Exit->St->Prop}{e:Exit}(h:Q e σ)(inv:Inv T Φ σ a w G):Lift T Φ Q e a w:=⟨[],σ,G,h,inv,Marks.nil _ _ _⟩
def Lift.back{Q:Exit->St->Prop}{e:Exit}{d:List Deferred}(b:Inv T {Φ with ds:=d++Φ.ds} σ0 a0 w0 G0)(mk:Marks Φ.w0 w0 G0 d)
 (h:Lift T (Fr.at {Φ with ds:=d++Φ.ds} w0 G0) Q e a w):Lift T Φ Q e a w:=by
 obtain⟨f,σ,G,t,inv,Ds2,r,k,o⟩:=h;obtain⟨m,q,j,n⟩:=mk;have s:Later {Φ with ds:=d++Φ.ds} {(Fr.at {Φ with ds:=d++Φ.ds} w0 G0)with ds:=f++(d++Φ.ds)}:=b.aF0.trans (Later.of rfl rfl rfl rfl rfl rfl);have p:∀D∈m,D<w0.heap.size:=λD c=>(PS.1 (n D c).2.1).1;refine⟨f++d,σ,G,t,b.down s inv rfl rfl rfl rfl rfl rfl (Pq _ _ _) rfl,Ds2++m,by rw[q,r,Qa],?_,λD c=>?_⟩
 ·refine List.nodup_append.2 ⟨k,j,λx u y v=>?_⟩
  have g:w0.heap.size<=x:=(o x u).1;have i:=p y v;omega
 ·rcases Pv.1 c with c|c
  ·obtain⟨g,i,l⟩:=o D c
   exact⟨PD b.size g,i,l⟩
  ·obtain⟨g,i,l⟩:=n D c
   obtain⟨z,A⟩:=inv.mP (w0:=w0) (G0:=G0) rfl rfl rfl (p D c) l;exact⟨g,z.trans i,A⟩
def dJ8:∀(c:List Nat) (b:List V) (vs:List Value) (σ:St) (a:Act),c.length=b.length->vs.length=b.length->(∀p∈c,p<Φ.n/\Φ.keep p=none)->
 (∀(j:Nat) v y,vs[j]? =some v->b[j]? =some y->y.pure/\Rv w G v y)->Inv T Φ σ a w G->Inv T Φ ⟨cM2 c b σ.env,σ.bx,σ.ar⟩ {a with tmps:=(c.zip vs).foldl (λt (p,v)=>t.setIfInBounds p v) a.tmps} w G:=by
 intro c;induction c with
 |nil=>intro b vs σ a _ _ _ _ inv;exact inv
 |cons p c l=>
  intro b vs σ a h1 g i k inv;cases b with
  |nil=>simp at h1
  |cons y b=>
   cases vs with
   |nil=>simp at g
   |cons v vs=>
    obtain⟨m,o⟩:=k 0 v y rfl rfl;have f:=i p Af;have e:=inv.bA3 (d:=p) ⟨f.1,f.2⟩ o (V.pure.ok m _ _);exact l b vs (σ.set p y) (a.put (some p) v) FC (by simpa using g) (λp f=>i p (by simp[f])) (λj v y hv hy=>k (j+1) v y AZ EO) e
def Inv.outer{wr:List Nat}(inv0:Inv T Φ σ0 a0 w0 G0)(h1:Φ2.w0=Φ.w0)(h2:Φ2.given=Φ.given)(h3:Φ2.F0=Φ.F0)(h4:Φ2.n=Φ.n)(h5:Φ2.arg=Φ.arg)(h6:Φ2.argb=Φ.argb)
 (hk:∀s,s∉wr->Φ2.keep s=some (a0.tmps.getD s undef))(inv:Inv T Φ2 σ a w G):Inv T Φ (sJ wr σ) a0 w G where
 nd:=inv0.nd
 kp:=inv0.kp
 sz:=inv0.sz
 env s:=by
  show Rv w G (a0.tmps.getD s undef) (cond (memR s wr) .bot (σ.env s));cases hm:memR s wr with
  |true=>exact .bot _
  |false=>
   have:s∉wr:=λh=>by rw[pM.2 h]at hm;cases hm
   have e:=inv.kp s _ (hk s this);rw[<-e];exact inv.env s
 wfE s:=by
  show(cond (memR s wr) V.bot (σ.env s)).ok _ _;cases memR s wr with
  |true=>simp only[Qo,V.ok]
  |false=>exact inv.wfE s
 box:=inv.box
 wfB:=inv.wfB
 arr:=inv.arr
 wfA:=inv.wfA
 tag:=inv.tag
 mineB b i h:=by have:=inv.mineB b i h;unfold Fr.mine at*;rw[h1,h2]at this;exact this
 mineA b k h:=by have:=inv.mineA b k h;unfold Fr.mine at*;rw[h1,h2]at this;exact this
 fzm b h:=by have:=inv.fzm b h;unfold Fr.mine at*;rw[h1,h2,h3]at this;exact this
 F0 b h:=inv.F0 b (by rw[h3];exact h)
 frame b hb hg:=by have:=inv.frame b (by rw[h1];exact hb) (by rw[h2];exact hg);rw[h1]at this;exact this
 size:=by have:=inv.size;rw[h1]at this;exact this
 os:=by have:=inv.os;rw[h1]at this;exact this
 tape:=by have:=inv.tape;rw[h1]at this;exact this
 output:=by have:=inv.output;rw[h1]at this;exact this
 args:=by have:=inv.args;rw[h5]at this;exact this
 lay:=inv0.lay
 argb:=by have:=inv.argb;rw[h6]at this;exact this
def Inv.aQ1(inv:Inv T Φ σ a w G)(ds:List Deferred)(h1:Φ2.w0=Φ.w0)(h2:Φ2.given=Φ.given)(h3:Φ2.F0=Φ.F0)(h4:Φ2.n=Φ.n)(h5:Φ2.arg=Φ.arg)(h6:Φ2.argb=Φ.argb)(h7:Φ2.ds=ds)(h8:∀s v,Φ2.keep s=some v->a.tmps.getD s undef=v):Inv T Φ2 σ {a with defers:=ds} w G where
 nd:=h7.symm
 kp:=h8
 sz:=by rw[h4];exact inv.sz
 env:=inv.env
 wfE:=inv.wfE
 box:=inv.box
 wfB:=inv.wfB
 arr:=inv.arr
 wfA:=inv.wfA
 tag:=inv.tag
 mineB b i h:=by have:=inv.mineB b i h;unfold Fr.mine at*;rw[h1,h2];exact this
 mineA b k h:=by have:=inv.mineA b k h;unfold Fr.mine at*;rw[h1,h2];exact this
 fzm b h:=by have:=inv.fzm b h;unfold Fr.mine at*;rw[h1,h2,h3];exact this
 F0 b h:=inv.F0 b (by rw[<-h3];exact h)
 frame b hb hg:=by rw[h1]at hb⊢;rw[h2]at hg;exact inv.frame b hb hg
 size:=by rw[h1];exact inv.size
 os:=by rw[h1];exact inv.os
 tape:=by rw[h1];exact inv.tape
 output:=by rw[h1];exact inv.output
 args:=by rw[h5];exact inv.args
 lay:=by rw[h1,h2,h3];exact inv.lay
 argb:=by rw[h6];exact inv.argb
def aF9{l:Nat}{o:Obj}(hl:G.O l= .ext)(h0:Φ.w0.heap.size<=l):Quiet Φ w (w.putObj l o) G where
 size:=by simp[World.putObj]
 same b hb:=World.putObj_heap_other (by rintro rfl;exact hb hl)
 old b hb:=World.putObj_heap_other Aa
 os:=rfl
 tape:=rfl
 output:=rfl
theorem Le.out(h:Le T σ σ0)(inv:Inv T Φ σ a w G):∃G',Inv T Φ σ0 a w G':=by unfold Le at h;exact h Φ a w G inv
theorem dV2{b:Array Nat}{vs:Array Value}{t:Array Value}:(b.zip vs).foldl (λt (p,v)=>t.setIfInBounds p v) t=(b.toList.zip vs.toList).foldl (λt (p,v)=>t.setIfInBounds p v) t:=by
 rw[<-Array.foldl_toList,Array.toList_zip]
def aV3(o:Obj)(inv:Inv T Φ σ a w G):Quiet Φ w (w.alloc o) G where
 size:=Af
 same b hb:=Ry w _ (inv.tag b hb)
 old b hb:=Ry w _ (QW hb inv.size)
 os:=rfl
 tape:=rfl
 output:=rfl
def cI6{n:Nat}{x y:Code}{f:Operand}{g:FuncId}{R:List V}{F:Array Nat}{Q:Exit->St->Prop}(hn:Φ.n=n)
 (b8:∀(Φ:Fr) (ro:Option Nat) (σ:St) (a:Act) (w:World) (G:Gh) (Q:Exit->St->Prop),Φ.n=n->(∀d∈dstsOf x,Φ.keep d=none)->Inv T Φ σ a w G->nH T P n x σ Q->x.wpIn (FW ro) 0 P (Lift T Φ Q) a w)
 (b9:∀(Φ:Fr) (ro:Option Nat) (σ:St) (a:Act) (w:World) (G:Gh) (Q:Exit->St->Prop),Φ.n=n->(∀d∈dstsOf y,Φ.keep d=none)->Inv T Φ σ a w G->nH T P n y σ Q->y.wpIn (FW ro) 0 P (Lift T Φ Q) a w)
 (b0:∀p∈F.toList,p<n)(hk:∀d∈F.toList++(dstsOf x++dstsOf y),Φ.keep d=none)(ax:allR V.still R=true)
 (inv:Inv T Φ σ a w G)(h:aO0 T P f g R F.toList (F.toList++(dstsOf x++dstsOf y)) (nH T P n x) (nH T P n y) σ Q):(Code.rangeFunc f F x y).wpIn (FW none) 0 P (Lift T Φ Q) a w:=by
 obtain⟨ca,ad,bd,A,st,I,⟨p0,bz,h0,hf⟩,aj,a7⟩:=h.out;generalize hwr:F.toList++(dstsOf x++dstsOf y)=wr at*;have b4:∀p∈F.toList,p∈wr:=λp hp=>GU;have b5:∀p∈dstsOf x,p∈wr:=λp hp=>GU;have b6:∀p∈dstsOf y,p∈wr:=λp hp=>GU;obtain⟨G0,inv0⟩:=bz.out inv;have au:=inv0.ev f;rw[hf]at au
 obtain⟨lb,e1,e2,e3⟩:=au.1.fn_cap (by
  cases R with
  |nil=>rfl
  |cons x r=>cases x with
   |ap e l=>have:=dY.1 ax (.ap e l) (QU ..);cases this
   |_=>rfl) (λcs he=>by subst he;have:=dY.1 ax (.own 0 []) (QU ..);cases this)
 have a6:∀(j:Nat) y,R[j]? =some y->y.pure:=λj y hy=>by
  have h2:=au.2;simp only[V.ok]at h2;exact bL0 (dY.1 ax y (Pn hy)) (aH.1 h2 y (Pn hy))
 refine wpIn_rangeFunc ?_;intro fn av;obtain⟨E,K⟩:∃E:LoopState->Option Code->Loop,E=λst pe=> {state:=st,pending:=pe,fn,tmps:=a.tmps,params:=F,assign:=x,body:=y,defers:=w.heap.size}:=⟨_,rfl⟩;obtain⟨U,X⟩:∃U,(w.alloc (.deferred (some []))).alloc (.loop (E .ready none))=U:=⟨_,rfl⟩;obtain⟨l,hl⟩:∃l,l=w.heap.size+1:=⟨_,rfl⟩;obtain⟨D,hD⟩:∃D,D=w.heap.size:=⟨_,rfl⟩;have aq:D≠l:=Aa;have cf:U.heap.size=w.heap.size+2:=by rw[<-X];simp
 have br:U.heap[l]? =some (.loop (E .ready none)):=by
  rw[<-X,hl];have:=World.alloc_heap_new (w.alloc (.deferred (some []))) (.loop (E .ready none));rwa [World.size_alloc]at this
 have bp:U.heap[D]? =some (.deferred (some [])):=by
  rw[<-X,hD];exact(Ry _ _ Af).trans (World.alloc_heap_new w _)
 have aw:Φ.w0.heap.size<=l:=by have:=inv.size;omega
 have bn:Φ.w0.heap.size<=D:=by have:=inv.size;omega
 have ae:=inv0.quiet (aV3 (.deferred (some [])) inv0);have an:Inv T Φ (st p0) a U G0:=by rw[<-X];exact ae.quiet (aV3 _ ae)
 have ba:Keep w U G0 G0:=⟨λ_ h=>h,λb hb=>by
  have bt:b<w.heap.size:=inv0.tag b Aw;rw[<-X];exact(Ry _ _ Be).trans (Ry w _ bt)⟩
 have cd:G0.O l= .ext:=inv0.ext_size Aa;have cc:G0.O D= .ext:=inv0.ext_size Aa;have C:callable P g=true:=ad.1
 have eg:∀args w,(callFunc g args).run P w= .ok (.enter g args) w:=by
  intro args w;unfold callable at C;split at C;rename_i fn av;simp only[Px,bne_iff_ne]at C;have hb:fn.body≠none:=by intro h;rw[h]at C;simp at C
  simp[callFunc,av,hb,C.2];cases C
 refine⟨l,[mark D],U,{target:= .fn (.func g) lb,args:= #[.func (.yield l) #[] #[]]},U,g, #[.func (.yield l) #[] #[]] ++lb,U,?_,?_,?_,?_,λhh=>Et,?_⟩
 ·rw[<-X,K,hl,hD];exact run_enterLoop_outer _ _ _ _ _
 ·simp only[resolve,e1]
  simp[go_sem]
 ·intro f' _;trivial
 ·simp[invoke,go_sem,eg]
 refine(ad.2 U G0 lb l e2 (λb hb=>by have:=inv0.tag b hb;omega) (λj v y hv hy=>⟨a6 j y hy,(e3 j v y hv hy).aW ba (a6 j y hy)⟩) an.up.lay.1
  (λk W G'=>∃p,I k p/\Inv T Φ (st p) a W G'/\W.heap[l]? =some (.loop (E .ready none))/\W.heap[D]? =some (.deferred (some []))/\G'.O l= .ext/\G'.O D= .ext)
  (λW G'=>∃c e J,((c= .ret/\e= .ret)\/∃i,c= .exit i/\e= .exit i)/\Q e J/\Inv T Φ J a W G'/\W.heap[l]? =some (.loop (E .done (some c)))/\W.heap[D]? =some (.deferred (some []))/\G'.O l= .ext/\G'.O D= .ext)
  ?_ ?_ ?_ ?_ ⟨p0,h0,an,br,bp,cd,cc⟩).mono ?_
 ·rintro k W W' G' ⟨p,q1,q2,q3,q4,q5,q6⟩ S hb ho ht hu
  have ac:l<W.heap.size:=(PS.1 q3).1;refine⟨p,q1,q2.quiet ⟨S,λb h=>hb b (q2.tag b h) (.inl h),λb h=>hb b (QW h q2.size) (.inr (by have:=inv.size;omega)),ho,ht,hu⟩,?_,?_,q5,q6⟩
  ·rw[hb l ac (.inr Aa)];exact q3
  ·rw[hb D Aa (.inr Aa)];exact q4
 ·rintro W W' G' ⟨c,e,J,q0,q1,q2,q3,q4,q5,q6⟩ S hb ho ht hu
  have ac:l<W.heap.size:=(PS.1 q3).1;refine⟨c,e,J,q0,q1,q2.quiet ⟨S,λb h=>hb b (q2.tag b h) (.inl h),λb h=>hb b (QW h q2.size) (.inr (by have:=inv.size;omega)),ho,ht,hu⟩,?_,?_,q5,q6⟩
  ·rw[hb l ac (.inr Aa)];exact q3
  ·rw[hb D Aa (.inr Aa)];exact q4
 ·rintro k W G' G'' ⟨p,q1,q2,q3,q4,q5,q6⟩ b7 bs hO
  have a4:∀b,b<U.heap.size->G''.O b=G'.O b:=λb hb=>by
   rcases hO b with h|h;exact h;omega
  refine⟨p,q1,?_,q3,q4,by rw[a4 l (by omega)];exact q5,by rw[a4 D (by omega)];exact q6⟩
  have keepO:∀b,G'.O b≠ .ext->G''.O b=G'.O b:=λb hb=>by
   rcases hO b with h|h;exact h;exact absurd h.2.2.1 hb
  refine q2.change rfl ⟨λb hb=>Fz,λ_ _=>rfl⟩ (λi _=>by rw[b7]) (λi g _=>by rw[bs]) (λ_ h=>h) (λ_ _ h=>h)
   (λi cs hi=> .inl ⟨hi,?_,rfl⟩) (λk en hk=> .inl ⟨hk,λb hb=>⟨Fz,rfl⟩⟩) (λb hb=>?_) (λb=>?_) (λb=> .inl rfl) (Po _) rfl rfl rfl
  ·have:=(q2.box i cs hi).choose_spec.choose_spec.2.2
   rw[keepO _ (by rw[this];simp)];exact this
  ·rcases hO b with h|h
   ·rw[h]at hb;exact q2.tag b hb
   ·exact h.2.1
  ·rcases hO b with h|h
   ·exact .inl h
   ·exact .inr (.inr (.inl (by have:=inv.size;omega)))
 ·
  rintro k W G' vs it ⟨p,hI,u,hL,hK,ol,oD⟩ a9 bi b3;have ac:l<W.heap.size:=(PS.1 hL).1;have a8:it.length=F.toList.length:=bd it (Pn a9);have hy:=run_yield (P:=P) (args:=vs) hL (by rw[K];show vs.size=F.size;rw[bi,a8];simp);rw[K]at hy;refine⟨fn,_,x,y,hy,roundIn_of_wpIn av ?_⟩;show x.wpIn (FW (some l)) 0 P _ _ _;obtain⟨o,hΦr⟩:∃o:Fr,o={(Φ.at W G')with ds:=[],keep:=λs=> @ite _ (s∈wr) (Classical.propDecidable _) none (some (a.tmps.getD s undef))}:=⟨_,rfl⟩;have ai:∀d∈wr,o.keep d=none:=λd hd=>by rw[hΦr];exact Pm hd
  have ab:∀d,d∉wr->o.keep d=some (a.tmps.getD d undef):=λd hd=>by rw[hΦr];exact Ph hd
  have bh:o.n=n:=by rw[hΦr];exact hn
  have bl:Inv T o ⟨cM2 F.toList it (st p).env,(st p).bx,(st p).ar⟩ {tmps:=(F.zip vs).foldl (λt (p,v)=>t.setIfInBounds p v) a.tmps,defers:=[]} W G':=by
   rw[dV2]
   have:=u.up.aQ1 (Φ2:=o) [] EC EC EC EC EC EC EC (λs v S=>by
    by_cases hm:s∈wr;rw[ai s hm]at S;cases S
    rw[ab s hm]at S;exact Q5 S)
   exact dJ8 F.toList it vs.toList (st p) {a with defers:=[]} a8.symm (by simpa using bi) (λp hp=>⟨by rw[bh];exact b0 p hp,ai p (b4 p hp)⟩) (λj v y hv hy=>b3 j v y AZ hy) this
  refine QV (b8 o (some l) _ _ W G' _ bh (λd hd=>ai d (b5 d hd)) bl (aj k p it hI a9)) ?_;rintro e a1 w1 ⟨N,ak,G1,Y,B,cg⟩;cases e with
  |normal=>
   obtain⟨rl,gl⟩:=B.mP (w0:=W) (G0:=G') Eh Eh Eh ac ol;obtain⟨rD,gD⟩:=B.mP (w0:=W) (G0:=G') Eh Eh Eh Aa oD;rw[hL]at rl;rw[hK]at rD;obtain⟨H,L⟩:∃H,H=w1.putObj l (.loop {E .ready none with state:= .busy}):=⟨_,rfl⟩;have be:l<w1.heap.size:=(PS.1 rl).1;refine⟨H,by rw[L];exact run_beginRound rl (by rw[K]),?_⟩;show y.wpIn (FW (some l)) 0 P _ _ _;have bb:Later Φ {o with ds:=N++o.ds}:=u.aF0.trans (Later.of EC EC EC EC EC EC);have bk:Inv T {Φ with ds:=N++o.ds,keep:=o.keep} ak a1 w1 G1:=u.down bb B rfl rfl rfl rfl rfl rfl rfl rfl;have af:Inv T {Φ with ds:=N++o.ds,keep:=o.keep} ak a1 H G1:=by rw[L];exact bk.quiet (aF9 gl aw)
   have ah:Inv T Φ (sJ wr ak) a H G1:=u.outer (Φ2:={Φ with ds:=N++o.ds,keep:=o.keep}) rfl rfl rfl rfl rfl rfl (λs S=>ab s S) af;have az:H.heap[l]? =some (.loop {E .ready none with state:= .busy}):=by rw[L];exact World.putObj_heap_same be
   have bf:l<H.heap.size:=(PS.1 az).1;have bq:H.heap[D]? =some (.deferred (some [])):=by rw[L];exact(World.putObj_heap_other aq).trans rD
   have am:∀b,b≠l->H.heap[b]? =w1.heap[b]? :=λb hb=>by rw[L];exact World.putObj_heap_other hb
   refine QV (b9 (Fr.at {Φ with ds:=N++o.ds,keep:=o.keep} H G1) (some l) ak a1 H G1 _ hn (λd hd=>ai d (b6 d hd)) af.up Y) ?_;rintro e a2 w3 ⟨cb,J,G2,Z,invC,ch⟩;have ag:Inv T (Φ.at H G1) (sJ wr J) a w3 G2:=ah.up.outer (Φ2:={(Fr.at {Φ with ds:=N++o.ds,keep:=o.keep} H G1)with ds:=cb++(N++o.ds)}) rfl rfl rfl rfl rfl rfl (λs S=>ab s S) invC
   have ao:∀(m:Option Code) (al:St) (G3:Gh),Inv T (Φ.at H G1) al a w3 G3->∃M,(Instr.endRound l m).run P w3= .ok (.bool m.isNone) M/\Inv T Φ al a M G3/\M.heap[l]? =some (.loop (E (if m.isNone then .ready else .done) m))/\M.heap[D]? =some (.deferred (some []))/\G3.O l= .ext/\G3.O D= .ext/\xN U W M G' G3:=by
    intro m al G3 z;obtain⟨sl,tl⟩:=z.mP (w0:=H) (G0:=G1) rfl rfl rfl bf gl;obtain⟨sD,tD⟩:=z.mP (w0:=H) (G0:=G1) rfl rfl rfl Aa gD;rw[az]at sl;rw[bq]at sD;have bg:l<w3.heap.size:=(PS.1 sl).1;have hr:=run_endRound (P:=P) m sl;have b2:({({E .ready none with state:= .busy}:Loop)with state:=if m.isNone then .ready else .done,pending:=m}:Loop)=E (if m.isNone then .ready else .done) m:=by rw[K]
    have b1:(Instr.endRound l m).run P w3= .ok (.bool m.isNone) (w3.putObj l (.loop (E (if m.isNone then .ready else .done) m))):=by rw[<-b2];exact hr
    have bj:Inv T Φ al a w3 G3:=ah.down ah.aF0 z rfl rfl rfl rfl rfl rfl rfl rfl;have ce:W.heap.size<=w1.heap.size/\w1.heap.size=H.heap.size/\H.heap.size<=w3.heap.size:=⟨by have:=B.size;rw[hΦr]at this;exact this,by rw[L];simp[World.putObj],z.size⟩;refine⟨_,b1,bj.quiet (aF9 tl aw),World.putObj_heap_same bg,(World.putObj_heap_other aq).trans sD,tl,tD,⟨⟨λb hb=>?_,λb hb=>?_⟩,?_,λb a5 bu bv=>?_,λb hb=>?_,?_,?_,?_⟩⟩;exact z.F0 b (B.F0 b (by rw[hΦr];exact hb));have aa:b≠l:=by rintro rfl;rw[ol]at hb;cases hb
    have bw:b<W.heap.size:=u.tag b Aw
    have f1:w1.heap[b]? =W.heap[b]? :=by
     have:=B.frame b (by rw[hΦr];exact bw) (by rw[hΦr];exact λq=>q.1 hb);rw[hΦr]at this;exact this
    have a5:G1.O b= .fz:=B.F0 b (by rw[hΦr];exact hb);have f2:w3.heap[b]? =H.heap[b]? :=z.frame b (by show b<H.heap.size;omega) (λq=>q.1 a5);rw[World.putObj_heap_other aa,f2,am b aa,f1];simp only[World.putObj,Array.size_setIfInBounds];omega;have aa:b≠l:=by omega
    obtain⟨f1,g1⟩:=B.mP (w0:=W) (G0:=G') Eh Eh Eh bu bv;obtain⟨f2,g2⟩:=z.mP (w0:=H) (G0:=G1) rfl rfl rfl Aa g1;exact⟨by rw[World.putObj_heap_other aa,f2,am b aa,f1],g2⟩;have:=z.tag b hb;simp only[World.putObj,Array.size_setIfInBounds];exact this;have a1:w3.os=H.os:=z.os;have a2:H.os=w1.os:=by rw[L];rfl
    have a3:w1.os=W.os:=by have:=B.os;rw[hΦr]at this;exact this
    exact a1.trans (a2.trans a3);have a1:w3.tape=H.tape:=z.tape;have a2:H.tape=w1.tape:=by rw[L];rfl
    have a3:w1.tape=W.tape:=by have:=B.tape;rw[hΦr]at this;exact this
    exact a1.trans (a2.trans a3);have a1:w3.output=H.output:=z.output;have a2:H.output=w1.output:=by rw[L];rfl
    have a3:w1.output=W.output:=by have:=B.output;rw[hΦr]at this;exact this
    exact a1.trans (a2.trans a3)
   cases e with
   |normal=>
    obtain⟨p',bc,bo⟩:=Z;obtain⟨G3,z⟩:=bc.out ag;obtain⟨M,r1,r2,r3,r4,r5,r6,r7⟩:=ao none _ G3 z;exact⟨_,M,r1, .inl ⟨rfl,G3,⟨p',bo,r2,r3,r4,r5,r6⟩,r7⟩⟩
   |ret=>
    obtain⟨M,r1,r2,r3,r4,r5,r6,r7⟩:=ao (some .ret) _ G2 ag;exact⟨_,M,r1, .inr ⟨rfl,G2,⟨.ret, .ret,_, .inl ⟨rfl,rfl⟩,Z,r2,r3,r4,r5,r6⟩,r7⟩⟩
   |exit id=>
    obtain⟨M,r1,r2,r3,r4,r5,r6,r7⟩:=ao (some (.exit id)) _ G2 ag;exact⟨_,M,r1, .inr ⟨rfl,G2,⟨.exit id, .exit id,_, .inr ⟨id,rfl,rfl⟩,Z,r2,r3,r4,r5,r6⟩,r7⟩⟩
   |goto t=>exact(Z:False).elim
   |panic c=>exact(Z:False).elim
   |outgrown=>exact(Z:False).elim
  |ret=>exact(Y:False).elim
  |exit id=>exact(Y:False).elim
  |goto t=>exact(Y:False).elim
  |panic c=>exact(Y:False).elim
  |outgrown=>exact(Y:False).elim
 ·
  have mk:∀ {W:World} {G':Gh} {J:St} {pe:Option Code} {ay:LoopState},W.heap[l]? =some (.loop (E ay pe))->ay≠ .busy->W.heap[D]? =some (.deferred (some []))->G'.O l= .ext->G'.O D= .ext->Inv T Φ J a W G'->
   ∃M,(Instr.endLoop l).run P W= .ok pe M/\Inv T {Φ with ds:=[mark D] ++Φ.ds} J {a with defers:=[mark D] ++a.defers} M G'/\Marks Φ.w0 M G' [mark D] :=by
   intro W G' J pe ay hL S hK ol oD u;have hr:=run_endLoop (P:=P) hL (by rw[K];exact S);refine⟨_,by rw[K]at hr;exact hr,(u.quiet (aF9 ol aw)).aQ1 _ rfl rfl rfl rfl rfl rfl (by rw[u.nd]) u.kp,[D],rfl,Af,λD' bm=>?_⟩;rw[Py.1 bm];exact⟨bn,(World.putObj_heap_other aq).trans hK,oD⟩
  rintro e W ⟨⟨v,rfl⟩,(⟨G',p,hI,u,hL,hK,ol,oD⟩|⟨G',c,e,J,hc,hq,u,hL,hK,ol,oD⟩)⟩
  ·obtain⟨M,r1,r2,r3⟩:=mk hL Af hK ol oD u
   exact⟨none,M,r1,[mark D],st p,G',a7 p hI,r2,r3⟩
  ·obtain⟨M,r1,r2,r3⟩:=mk hL Af hK ol oD u
   refine⟨some c,M,r1,?_⟩;rcases hc with⟨rfl,rfl⟩|⟨i,rfl,rfl⟩
   ·exact wpIn_ret ⟨[mark D],J,G',hq,r2,r3⟩
   ·exact wpIn_exit ⟨[mark D],J,G',hq,r2,r3⟩
end
end Go.Ab
