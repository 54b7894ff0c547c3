/- Lemmas. -/
import Derived.Test.YtcmgfjaiegpddaaGreatB23
import Derived.Test.YtcmgfjaiegpddaaGreatB24
set_option linter.all false
set_option maxRecDepth 100000
set_option maxHeartbeats 4000000
noncomputable section
namespace Go.Proofs.Led
open Go Go.Proofs Go.Ab
abbrev vcR(v:Vc):Prop:=R64 v.1/\R64 v.2
abbrev Lz{α:Type}(l:List α):Prop:=l.length<=140737488355328
def rgIn(l:Rg):Prop:=Lz l/\∀v∈l,vcR v
def shIn(s:Sh):Prop:=rgIn s.outer/\Lz s.holes/\∀h∈s.holes,rgIn h
def sheetIn(s:jL):Prop:=R64 s.id/\R64 s.grain/\shIn s.shape/\Lz s.defects/\∀d∈s.defects,shIn d
def barIn(b:Bar):Prop:=R64 b.id/\R64 b.length/\Lz b.defects/\∀d∈b.defects,R64 d.1/\R64 d.2
def madeIn(c:Made):Prop:=R64 c.id/\R64 c.size
def restIn(r:Rest):Prop:=R64 r.id/\(vcR r.box.1/\vcR r.box.2)/\R64 r.lo/\R64 r.hi
structure EvIn(e:Event):Prop where
 kd:R64 e.kind
 id:R64 e.id
 sc:R64 e.scrap
 sh:sheetIn e.sheet
 br:barIn e.bar
 lc:Lz e.cuts
 ct:∀c∈e.cuts,madeIn c
 lr:Lz e.rests
 rs:∀r∈e.rests,restIn r
def shIn.big{s:Sh}(h:shIn s):aV5 s:=⟨PD h.1.1 Ai,PD h.2.1 Ai,λr a=>PD (h.2.2 r a).1 Ai⟩
def sheetIn.big{s:jL}(h:sheetIn s):aA4 s:=⟨h.2.2.1.big,PD h.2.2.2.1 Ai,λd a=>(h.2.2.2.2 d a).big⟩
def EvIn.big{e:Event}(h:EvIn e):bI1 e:=⟨h.sh.big,PD h.br.2.2.1 Ai,PD h.lc Ai,PD h.lr Ai⟩
def totR(l:List Rg):Nat:=l.foldr (λh n=>h.length+n) 0
def cntS_eq:∀(l:List Rg) (n:Nat),n+totR l<=4611686018427387904->cntS n l=((n+totR l:Nat):Int)
 | [],n,_=>rfl
 |h::l,n,b=>by
  have e:totR (h::l)=h.length+totR l:=rfl;have a:=cntS_eq l (n+h.length) Aa;show cntS (W ((n:Int)+(h.length:Int))) l=_;rw[w_in Aa,<-Int.natCast_add,a,e,Nat.add_assoc]
def totR_le{K:Nat}:∀ {l:List Rg},(∀h∈l,h.length<=K)->totR l<=K*l.length
 | [],_=>P8 _
 |h::l,a=>by
  have:=totR_le (l:=l) (λx hx=>a x BO);have b:=a h Af;rw[PE,Nat.mul_succ];show h.length+totR l<=_;omega
def totR_mem{h:Rg}:∀ {l:List Rg},h∈l->h.length<=totR l
 |x::l,a=>by
  show _<=x.length+totR l;rcases P5.1 a with rfl|a;omega;have:=totR_mem a;omega
def few_tot{s:Sh}(h:shIn s)(b:fewS s):s.holes.length<=3/\s.outer.length+totR s.holes<=24:=by
 obtain⟨d,a⟩:=b;have f:totR s.holes<=140737488355328*s.holes.length:=totR_le λr c=>(h.2.2 r c).1;have e:=h.1.1;rw[cntS_eq _ _ Aa]at a;omega
variable{α:Type}
def many_le{c:Cod α}{K:Nat}:∀ {l:List α},(∀z∈l,(c.enc z).length<=K)->(c.many l).length<=K*l.length
 | [],_=>P8 _
 |x::l,h=>by
  have a:=h x Af;have b:=many_le (l:=l) (λz hz=>h z GK);unfold Cod.many at*;rw[Qk,OY,PE,Nat.mul_succ];omega
def encI_le(n:Int):(encI n).length<=9:=by have:=wid_le n;rw[enc_len];omega
def vec_le(v:Vc):(cVec.enc v).length<=18:=by
 show(encI v.1++encI v.2).length<=18;have a:=encI_le v.1;have b:=encI_le v.2;rw[OY];omega
def ring_le{K:Nat}{m:Int}{l:Rg}(h:∀v∈l,(cVec.enc v).length<=K):((cRing m).enc l).length<=9+K*l.length:=by
 show(encI l.length++cVec.many l).length<=_;have a:=encI_le l.length;have b:=many_le h;rw[OY];omega
def ringsL_le{K:Nat}{m:Int}:∀ {l:List Rg},(∀r∈l,∀v∈r,(cVec.enc v).length<=K)->((cRing m).many l).length<=9*l.length+K*totR l
 | [],_=>P8 _
 |r::l,h=>by
  have a:=ring_le (m:=m) (h r Af);have b:=ringsL_le (m:=m) (l:=l) (λz hz=>h z GK);unfold Cod.many at*;rw[Qk,OY,PE];show _<=9*(l.length+1)+K*(r.length+totR l);rw[Nat.mul_add K];omega
def shape_le{K:Nat}{s:Sh}(h:s.holes.length<=3/\s.outer.length+totR s.holes<=24)(c:∀v∈s.outer,(cVec.enc v).length<=K)(b:∀r∈s.holes,∀v∈r,(cVec.enc v).length<=K):(cShape.enc s).length<=45+24*K:=by
 show((cRing 40).enc s.outer++(encI s.holes.length++(cRing 40).many s.holes)).length<=_;have d:=ring_le (m:=40) c;have e:=encI_le s.holes.length;have f:=ringsL_le (m:=40) b;have a:K*(s.outer.length+totR s.holes)<=K*24:=Nat.mul_le_mul_left K h.2;rw[Nat.mul_add]at a;simp only[OY];omega
def text_le{m:Int}{t:ByteArray}(h:t.size<=40):((cText m).enc t).length<=49:=by
 rw[cText_enc,OY,bys_len];have:=encI_le t.size;omega
def sheet_le{K:Nat}{s:jL}(hi:sheetIn s)(j:xY s)(a:∀d,d=s.shape\/d∈s.defects->(∀v∈d.outer,(cVec.enc v).length<=K)/\∀r∈d.holes,∀v∈r,(cVec.enc v).length<=K):(cSheet.enc s).length<=530+216*K:=by
 obtain⟨z,A,k,B,n⟩:=hi;obtain⟨e,f,g,h,i⟩:=j;show(encI s.id++((cText 16).enc s.grade++((cText 16).enc s.heat++(encI s.grain++(cShape.enc s.shape++(encI s.defects.length++cShape.many s.defects)))))).length<=_;have o:=encI_le s.id;have p:=text_le (m:=16) f;have q:=text_le (m:=16) g;have t:=encI_le s.grain;have u:=shape_le (few_tot k i) (a _ (.inl rfl)).1 (a _ (.inl rfl)).2;have w:=encI_le s.defects.length;have x:=many_le (c:=cShape) (l:=s.defects) (K:=45+24*K) (λd b=>shape_le (few_tot (n d b) (e d b)) (a _ (.inr b)).1 (a _ (.inr b)).2);have y:(45+24*K)*s.defects.length<=(45+24*K)*8:=Nat.mul_le_mul_left _ h;simp only[OY];omega
def bar_le{s:Bar}(e:aJ9 s):(cBar.enc s).length<=305:=by
 obtain⟨a,b,n⟩:=e;show(encI s.id++((cText 16).enc s.grade++((cText 16).enc s.heat++(encI s.length++(encI s.defects.length++(cI.pair cI).many s.defects))))).length<=_;have f:=encI_le s.id;have g:=text_le (m:=16) a;have h:=text_le (m:=16) b;have i:=encI_le s.length;have j:=encI_le s.defects.length;have k:=many_le (c:=cI.pair cI) (l:=s.defects) (K:=18) (λd o=>vec_le d);simp only[OY];omega
def opt_le{c:Cod α}{z x:α}{n:Nat}(h:(c.enc x).length<=n):(optE c z x).length<=n:=by
 by_cases a:x=z;rw[optE_t a];exact P8 _;rw[optE_f a];exact h
def event_le{K:Nat}{m:Int}{x:Event}(o:fewE x)(p:(cSheet.enc x.sheet).length<=530+216*K):((cEvent m).enc x).length<=2255+216*K:=by
 obtain⟨⟨D,E,i,F,j⟩,k⟩:=o;have n:(cEvent m).enc x=encI x.kind++(encI x.id++((cText 16).enc x.text++((cBytes m).enc (optE cSheet dN x.sheet)++((cBytes m).enc (optE cBar bar0 x.bar)++((encI x.cuts.length++cMade.many x.cuts)++((encI x.rests.length++cRest.many x.rests)++encI x.scrap)))))):=rfl;rw[n,cBytes_enc,cBytes_enc];have s:=encI_le x.kind;have t:=encI_le x.id;have u:=text_le (m:=16) i;have v:=opt_le (z:=dN) p;have w:=opt_le (z:=bar0) (bar_le j);have y:=encI_le (optE cSheet dN x.sheet).length;have A:=encI_le (optE cBar bar0 x.bar).length;have B:=encI_le x.cuts.length;have C:=encI_le x.rests.length;have f:=encI_le x.scrap
 have g:=many_le (c:=cMade) (l:=x.cuts) (K:=67) (λc a=>by
  show(encI c.id++((cText 16).enc c.part++encI c.size)).length<=_;have b:=encI_le c.id;have d:=text_le (m:=16) (k c a);have e:=encI_le c.size
  simp only[OY];omega)
 have h:=many_le (c:=cRest) (l:=x.rests) (K:=63) (λc a=>by
  show(encI c.id++((cVec.enc c.box.1++cVec.enc c.box.2)++(encI c.lo++encI c.hi))).length<=_;have b:=encI_le c.id;have d:=vec_le c.box.1;have e:=vec_le c.box.2;have q:=encI_le c.lo;have r:=encI_le c.hi
  simp only[OY];omega)
 simp only[OY];omega
def bytes_rng{m:Int}{t:ByteArray}(h:t.size<=1000000000000):(cText m).rng t:=by
 refine⟨trivial,?_,λ_ _=>trivial⟩;rw[bys_len];exact h
def ring_rng{m:Int}{l:Rg}(h:rgIn l)(a:l.length<=1000000000000):(cRing m).rng l:=⟨a,λv hv=>h.2 v hv⟩
def shape_rng{s:Sh}(h:shIn s)(b:fewS s):cShape.rng s:=by
 obtain⟨c,d⟩:=few_tot h b;exact⟨ring_rng (l:=s.outer) h.1 Aa,by show s.holes.length<=_;omega,λr a=>ring_rng (l:=r) (h.2.2 r a) (by have:=totR_mem (h:=r) (l:=s.holes) a;omega)⟩
def sheet_rng{s:jL}(h:sheetIn s)(e:xY s):cSheet.rng s:=by
 obtain⟨f,g,i,n,j⟩:=h;obtain⟨b,k,l,m,c⟩:=e;exact⟨trivial,f,bytes_rng (t:=s.grade) Aa,bytes_rng (t:=s.heat) Aa,g,shape_rng i c,by show s.defects.length<=_;omega,λd a=>shape_rng (j d a) (b d a)⟩
def bar_rng{s:Bar}(h:barIn s)(b:aJ9 s):cBar.rng s:=by
 obtain⟨c,e,k,f⟩:=h;obtain⟨g,i,j⟩:=b;exact⟨trivial,c,bytes_rng (t:=s.grade) Aa,bytes_rng (t:=s.heat) Aa,e,by show s.defects.length<=_;omega,λd a=>f d a⟩
def event_rng{m:Int}{x:Event}(h:EvIn x)(i:fewE x):(cEvent m).rng x:=by
 obtain⟨⟨j,k,l,e,f⟩,g⟩:=i;have o:=opt_le (z:=dN) (sheet_le (K:=18) h.sh e λd q=>⟨λv _=>vec_le v,λr _ v _=>vec_le v⟩);have n:=opt_le (z:=bar0) (bar_le f);refine⟨trivial,h.kd,h.id,bytes_rng (t:=x.text) Aa,⟨sheet_rng h.sh e,?_,λ_ _=>trivial⟩,⟨bar_rng h.br f,?_,λ_ _=>trivial⟩,⟨by show x.cuts.length<=_;omega,λc a=>⟨trivial,(h.ct c a).1,bytes_rng (t:=c.part) (by have:=g c a;omega),(h.ct c a).2⟩⟩,⟨by show x.rests.length<=_;omega,λr b=>⟨trivial,(h.rs r b).1,(h.rs r b).2.1,(h.rs r b).2.2⟩⟩,h.sc⟩;show(optE cSheet dN x.sheet).length<=_;omega;show(optE cBar bar0 x.bar).length<=_;omega
def event_back{m:Int}{x:Event}(h:EvIn x)(b:fewE x)(A:6143<=m)(l:x.sheet=dN\/cSheet.ok x.sheet)(j:x.bar=bar0\/cBar.ok x.bar)(a:(cText 16).ok x.text/\(∀c∈x.cuts,(cText 16).ok c.part)/\x.cuts.length<=60/\x.rests.length<=6)(hv:iD x):(cEvent m).at ((cEvent m).enc x) 0=some (x,((cEvent m).enc x).length):=by
 refine at_all.2 ⟨rfl,event_rng h b,?_⟩;obtain⟨g,i,s,t⟩:=a;obtain⟨⟨n,o,p,e,f⟩,q⟩:=b;have w:=opt_le (z:=dN) (sheet_le (K:=18) h.sh e λd y=>⟨λv _=>vec_le v,λr _ v _=>vec_le v⟩);have u:=opt_le (z:=bar0) (bar_le f);exact⟨⟨trivial,trivial,g,⟨⟨by show((optE cSheet dN x.sheet).length:Int)<=m;omega,λ_ _=>trivial⟩,l⟩,⟨⟨by show((optE cBar bar0 x.bar).length:Int)<=m;omega,λ_ _=>trivial⟩,j⟩,⟨by show(x.cuts.length:Int)<=60;omega,λc k=>⟨⟨trivial,i c k,trivial⟩,trivial⟩⟩,⟨by show(x.rests.length:Int)<=6;omega,λr _=>⟨⟨trivial,⟨⟨trivial,trivial⟩,⟨trivial,trivial⟩⟩,trivial,trivial⟩,trivial⟩⟩,trivial⟩,hv⟩
end Go.Proofs.Led
