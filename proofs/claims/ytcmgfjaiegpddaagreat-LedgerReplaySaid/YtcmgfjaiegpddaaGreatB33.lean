/- Lemmas. -/
import Derived.Test.YtcmgfjaiegpddaaGreatB25
import Derived.Test.YtcmgfjaiegpddaaGreatB32
set_option linter.all false
set_option maxRecDepth 100000
set_option maxHeartbeats 4000000
noncomputable section
namespace Go.Proofs.Led
open Go Go.Proofs Go.Ab
variable{α β:Type}
def AllB(l:List Int):Prop:=∀c∈l,isB c
def AllB.app{l m:List Int}(h:AllB l)(k:AllB m):AllB (l++m):=λc a=>(Pv.1 a).elim (h c) (k c)
def allB_int(n:Int):AllB (encI n):=enc_isB n
def allB_many{c:Cod α}(h:∀x,AllB (c.enc x))(l:List α):AllB (c.many l):=λb a=>by
 obtain⟨x,_,d⟩:=List.mem_flatMap.1 a;exact h x b d
def allB_bytes{m:Int}{l:List Int}(h:AllB l):AllB ((cBytes m).enc l):=by
 rw[cBytes_enc];exact(allB_int _).app h
def allB_text{m:Int}(s:ByteArray):AllB ((cText m).enc s):=by
 rw[cText_enc];exact(allB_int _).app (bys_isB s)
def allB_vec(v:Vc):AllB (cVec.enc v):=(allB_int v.1).app (allB_int v.2)
def allB_ring{m:Int}(l:Rg):AllB ((cRing m).enc l):=(allB_int _).app (allB_many allB_vec l)
def allB_shape(s:Sh):AllB (cShape.enc s):=(allB_ring s.outer).app ((allB_int _).app (allB_many allB_ring s.holes))
def allB_sheet(s:jL):AllB (cSheet.enc s):=(allB_int s.id).app ((allB_text s.grade).app ((allB_text s.heat).app ((allB_int s.grain).app ((allB_shape s.shape).app ((allB_int _).app (allB_many allB_shape s.defects))))))
def allB_bar(s:Bar):AllB (cBar.enc s):=(allB_int s.id).app ((allB_text s.grade).app ((allB_text s.heat).app ((allB_int s.length).app ((allB_int _).app (allB_many allB_vec s.defects)))))
def allB_opt{c:Cod α}{z:α}(h:∀x,AllB (c.enc x))(x:α):AllB (optE c z x):=by
 by_cases a:x=z;rw[optE_t a];exact λc b=>by cases b
 rw[optE_f a];exact h x
def allB_event(m:Int)(x:Event):AllB ((cEvent m).enc x):=
 (allB_int x.kind).app ((allB_int x.id).app ((allB_text x.text).app ((allB_bytes (m:=m) (allB_opt allB_sheet x.sheet)).app ((allB_bytes (m:=m) (allB_opt allB_bar x.bar)).app (((allB_int _).app (allB_many (λc=>(allB_int c.id).app ((allB_text c.part).app (allB_int c.size))) x.cuts)).app
  (((allB_int _).app (allB_many (λr=>(allB_int r.id).app (((allB_vec r.box.1).app (allB_vec r.box.2)).app ((allB_int r.lo).app (allB_int r.hi)))) x.rests)).app (allB_int x.scrap)))))))
def name_ok{t:ByteArray}(h:iM t\/t=aI):(cText 16).ok t:=by
 refine⟨⟨?_,λ_ _=>trivial⟩,trivial⟩;show((bys t).length:Int)<=16;rw[bys_len];rcases h with h|rfl;have:=h.2.1;omega;decide
def shape_ok{s:Sh}(h:bG s):cShape.ok s:=by
 obtain⟨c,a,_⟩:=h;refine⟨⟨?_,λv _=>⟨trivial,trivial⟩⟩,?_,λr b=>⟨?_,λv _=>⟨trivial,trivial⟩⟩⟩;have:=(a s.outer (QU ..)).2.1;show(s.outer.length:Int)<=40;omega;show(s.holes.length:Int)<=6;omega;have:=(a r (Qw _ b)).2.1;show(r.length:Int)<=40;omega
def sheet_ok{s:jL}(h:dB s):cSheet.ok s:=by
 have a:=h;obtain⟨⟨_,_,b,c⟩,_,_,e,i,_,_,f⟩:=h;refine⟨⟨trivial,name_ok (.inl b),name_ok (.inl c),trivial,shape_ok e.1,?_,λd g=>shape_ok (f d g).1.1⟩,a⟩;show(s.defects.length:Int)<=6;omega
def bar_ok{s:Bar}(h:fM s):cBar.ok s:=by
 have a:=h;obtain⟨⟨_,_,b,c⟩,_,_,e,_⟩:=h;refine⟨⟨trivial,name_ok (.inl b),name_ok (.inl c),trivial,?_,λd f=>⟨trivial,trivial⟩⟩,a⟩;show(s.defects.length:Int)<=6;omega
def formed_parts{x:Event}(h:iD x):(x.sheet=dN\/cSheet.ok x.sheet)/\(x.bar=bar0\/cBar.ok x.bar)/\(cText 16).ok x.text/\(∀c∈x.cuts,(cText 16).ok c.part)/\x.cuts.length<=60/\x.rests.length<=6:=by
 obtain⟨g,i,d,j,l,n,e,a,q,m⟩:=h;have o:x.kind=1\/x.kind=2\/x.kind=3\/x.kind=4\/x.kind=5\/x.kind=6\/x.kind=7\/x.kind=8:=Aa;refine⟨?_,?_,?_,?_,?_,?_⟩;by_cases c:x.kind=1;exact .inr (sheet_ok (j c).2);by_cases b:x.kind=2;exact .inl (no_sheet.1 (l b).1);exact .inl (no_sheet.1 (i Aa).1);by_cases c:x.kind=2;exact .inr (bar_ok (l c).2);by_cases b:x.kind=1;exact .inl (no_bar.1 (j b).1);exact .inl (no_bar.1 (i Aa).2);refine name_ok ?_;by_cases c:x.kind=3\/x.kind=7;exact .inl (n c);right;rcases o with k|k|k|k|k|k|k|k;exact(g (.inl k)).2;exact(g (.inr k)).2;exact absurd (.inl k) c;exact e (.inl k);exact(a k).2.2.2.2.2;exact e (.inr (.inl k));exact absurd (.inr k) c;exact e (.inr (.inr k));intro c f;by_cases k:x.kind=5;exact name_ok (.inl ((a k).1 c f).2.1);have:=(d k).1;rw[PV.1 this]at f;cases f;by_cases k:x.kind=5;exact(a k).2.2.1;have:=(d k).1;omega;by_cases k:x.kind=5;exact(a k).2.2.2.1;have:=(d k).2.1;omega
def back_iff{m:Int}{x y:Event}(h:EvIn x)(a:fewE x)(f:6143<=m):(cEvent m).at ((cEvent m).enc x) 0=some (y,((cEvent m).enc x).length)↔y=x/\iD x:=by
 constructor;intro e;obtain⟨b,c,d⟩:=at_all.1 e;have:=((cEvent m).uni (r:=[]) (s:=[]) (event_rng h a) c (by rw[b])).1;exact⟨this.symm,by rw[this];exact d.2⟩;rintro⟨rfl,hv⟩;obtain⟨g,i,j⟩:=formed_parts hv;exact event_back h a f g i j hv
def dEvent_cases{b:List Int}(a:Byt b):(∃x,(cEvent 200000).at b 0=some (x,b.length)/\Sp 11 [.sl (b.map byV)] (.tup [aS x,I 0]))\/((∀x,(cEvent 200000).at b 0≠some (x,b.length))/\Sp 11 [.sl (b.map byV)] (.tup [aS event0,I 4])):=by
 by_cases h:∃s,(cEvent 200000).at b 0=some (s,b.length);obtain⟨s,h⟩:=h;refine .inl ⟨s,h,zsp Tryz.func11 (dEvent_vc a _ (λc e=>?_) (λe=>absurd h (e s)))⟩;rw[h]at e;cases e;rfl;have h:∀s,(cEvent 200000).at b 0≠some (s,b.length):=λs e=>h ⟨s,e⟩;exact .inr ⟨h,zsp Tryz.func11 (dEvent_vc a _ (λc e=>absurd e (h c)) (λ_=>rfl))⟩
end Go.Proofs.Led
