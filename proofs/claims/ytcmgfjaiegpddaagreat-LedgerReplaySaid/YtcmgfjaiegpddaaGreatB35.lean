/- Lemmas. -/
import Derived.Test.YtcmgfjaiegpddaaGreatB26
import Derived.Test.YtcmgfjaiegpddaaGreatB33
import Derived.Test.YtcmgfjaiegpddaaGreatB34
set_option linter.all false
set_option maxRecDepth 100000
set_option maxHeartbeats 4000000
noncomputable section
namespace Go.Proofs.Led
open Go Go.Proofs Go.Ab
def lastS(s:aJ)(A:List Event):aJ:=A.foldl (λs e=>(appR s e).1) s
def stsF(s:aJ):List Event->List aJ
 | [] => []
 |e::A=>(appR s e).1::stsF (appR s e).1 A
def okAll(s:aJ):List Event->Prop
 | [] =>True
 |e::A=>(appR s e).2=0/\okAll (appR s e).1 A
theorem stsF_len:∀(A:List Event) (s:aJ),(stsF s A).length=A.length
 | [],_=>rfl
 |e::A,s=>by show(stsF _ A).length+1=_;rw[stsF_len A];rfl
theorem stsF_snoc:∀(A:List Event) (s:aJ) (e:Event),stsF s (A++[e])=stsF s A++[(appR (lastS s A) e).1]
 | [],_,_=>rfl
 |x::A,s,e=>by show _::stsF _ (A++[e])=_::stsF _ A++_;rw[stsF_snoc A];rfl
def stsF_at:∀ {A:List Event} {s:aJ} {k:Nat},k<A.length->(stsF s A)[k]? =some (lastS s (A.take (k+1)))
 | [],_,_,h=>Ag
 |e::A,s,0,_=>rfl
 |e::A,s,k+1,h=>by
  show(stsF (appR s e).1 A)[k]? =_;rw[stsF_at (A:=A) FY];rfl
def okAll_snoc:∀ {A:List Event} {s:aJ} {e:Event},okAll s A->(appR (lastS s A) e).2=0->okAll s (A++[e])
 | [],_,_,_,h=>⟨h,trivial⟩
 |x::A,s,e,h,a=>⟨h.1,okAll_snoc h.2 a⟩
def okAll_take:∀ {A:List Event} {s:aJ} (k:Nat),okAll s A->okAll s (A.take k)
 | [],_,_,h=>by rw[List.take_nil];exact h
 |x::A,s,0,h=>trivial
 |x::A,s,k+1,h=>⟨h.1,okAll_take k h.2⟩
def replay_all:∀ {A:List Event} {s:aJ} {i:Int},okAll s A->kL s i A=(lastS s A,i+A.length,0)
 | [],s,i,_=>by show(s,i,0)=(s,i+0,0);rw[Int.add_zero]
 |e::A,s,i,h=>by
  show(if(appR s e).2=0 then kL (appR s e).1 (i+1) A else _)=_;rw[Pm h.1,replay_all h.2];show(lastS (appR s e).1 A,i+1+(A.length:Int),0)=(lastS (appR s e).1 A,i+((A.length+1:Nat):Int),0);congr 2;omega
def ok_all:∀ {A:List Event} {s:aJ} {n:Nat},Ok s n->okAll s A->Ok (lastS s A) (n+moreL A)
 | [],s,n,h,_=>h
 |e::A,s,n,h,a=>by
  have:=ok_all (A:=A) (eR5 h (aZ6 h a.1).2) a.2;have b:moreL (e::A)=more e+moreL A:=FT;rw[b,<-Nat.add_assoc];exact this
def formed_all:∀ {A:List Event} {s:aJ} {n:Nat},Ok s n->okAll s A->∀e∈A,iD e
 | [],_,_,_,_,_,h=>Ag
 |x::A,s,n,h,a,e,b=>by
  rcases P5.1 b with rfl|b;exact(aZ6 h a.1).1;exact formed_all (A:=A) (eR5 h (aZ6 h a.1).2) a.2 e b
def moreL_take(A:List Event)(k:Nat):moreL (A.take k)<=moreL A:=by
 have e:moreL A=moreL (A.take k)+moreL (A.drop k):=by
  unfold moreL;rw[<-List.sum_append,<-Qa,Qq]
 omega
def recE(e:Event):List Int:=(cEvent 200000).enc e
def recs(A:List Event):List (List Int):=A.map recE
def ring_near{r:Rg}(h:dM r):∀v∈r,(cVec.enc v).length<=6:=by
 intro v hv;have b:=h.2.2.1 v hv
 have a:∀n:Int,-2000<=n/\n<=2000->(encI n).length<=3:=by
  intro n i;rw[enc_len]
  have c:fits 2 n:=by
   obtain⟨_,d,_⟩:=lims;unfold fits;rw[Ph Aa,d];omega
  have:=fits_wid c Aa;omega
 show(encI v.1++encI v.2).length<=6
 have b:(-2000<=v.1/\v.1<=2000)/\-2000<=v.2/\v.2<=2000:=by
  unfold within at b;have e:W (0-2000)= -2000:=w_in Aa;omega
 have f:=a v.1 Aa;have g:=a v.2 Aa;rw[OY];omega
def shape_near{s:Sh}(h:bG s):(∀v∈s.outer,(cVec.enc v).length<=6)/\∀r∈s.holes,∀v∈r,(cVec.enc v).length<=6:=
 ⟨ring_near (h.2.1 _ (QU ..)),λr a=>ring_near (h.2.1 r (Qw _ a))⟩
def formed_short{x:Event}(h:EvIn x)(c:fewE x)(hv:iD x):(recE x).length<=4000:=by
 have f:(cSheet.enc x.sheet).length<=530+216*6:=by
  refine sheet_le (K:=6) h.sh c.1.2.2.2.1 λd a=>?_;rcases(formed_parts hv).1 with e|e;rw[e]at a;rcases a with rfl|a;exact⟨λ_ h=>Ag,λ_ h=>Ag⟩;cases a;have b:dB x.sheet:=e.2;rcases a with rfl|a;exact shape_near b.2.2.2.1.1;exact shape_near (b.2.2.2.2.2.2.2 d a).1.1
 have:=event_le (K:=6) (m:=200000) c f;unfold recE;omega
def rec_ok{x:Event}(h:EvIn x)(a:fewE x)(hv:iD x):RecOk (recE x):=⟨allB_event _ x,formed_short h a hv⟩
theorem fit_take:∀(L:List (List Int)) (k:Nat),fitF k L=L.take (fitF k L).length
 | [],_=>rfl
 |r::L,k=>by
  unfold fitF;split;show _=r::List.take _ L;rw[<-fit_take L];rfl
def fit_all:∀ {L:List (List Int)} {k:Nat} {c:Int},(filF c L).length<=k->fitF k L=L
 | [],_,_,_=>rfl
 |r::L,k,c,h=>by
  rw[filF_cons,OY,frm_len]at h;unfold fitF;rw[Pm Aa,fit_all (L:=L) (k:=k- (r.length+13)) (c:=digF c r) Aa]
theorem fil_recs(A:List Event)(e:Event):filF 1 (recs (A++[e]))=filF 1 (recs A)++frB (chnF (filF 1 (recs A))) (recE e):=by
 unfold recs;rw[Qa,filF_app];congr 1;show frB _ (recE e)++[] =_;rw[Pz];cases A with
 |nil=>rfl
 |cons a A=>rw[chn_fil ⟨Ai,Ai⟩ Af]
end Go.Proofs.Led
