/- A part of the proof: SpU. -/
import Derived.Test.YtaeaffgjdcigoaaGreatG26
set_option linter.all false
namespace Go.Proofs.YtaeaffgjdcigoaaGreat
open Go
def evX (X:Int->Rat):List (Int×Rat)->Rat
 |[]=>0| t::r=>t.2*X t.1+evX X r
def F.at (f:F) (X:Int->Rat):Rat:=f.c+evX X f.ts
theorem WO (X:Int->Rat)(v:Int)(q:Rat)(r):evX X (pc v q r)=q*X v+evX X r:=by unfold pc;split;{rename_i h;rw[h];grind};{rfl}
theorem lS (X:Int->Rat)(c:Rat):∀ (a b:List (Int×Rat)),evX X (mrg c a b)=evX X a+evX X b*c
 |[],[]=>by rw[mrg];simp only[evX];grind| a::aa,[]=>by rw[mrg,WO,lS X c aa []];simp only[evX];grind| [],b::bb=>by rw[mrg,WO,lS X c [] bb];simp only[evX];grind| a::aa,b::bb=>by
  rw[mrg];split;{rw[WO,lS X c aa (b::bb)];simp only[evX];grind}
  ·split;{rw[WO,lS X c (a::aa) bb];simp only[evX];grind}
   ·(have:a.1=b.1:=by omega);rw[WO,lS X c aa bb];simp only[evX,this];grind
termination_by a b=>a.length+b.length
theorem Vd (X:Int->Rat)(f g:F)(c:Rat):(f.merge g c).at X=f.at X+g.at X*c:=by show f.c+g.c*c+evX X (mrg c f.ts g.ts)=f.c+evX X f.ts+(g.c+evX X g.ts)*c;rw[lS];grind
theorem Gv (X:Int->Rat)(f g:F):(f.add g).at X=f.at X+g.at X:=by unfold F.add;rw[Vd];grind
theorem cC (X:Int->Rat)(f g:F):(f.sub g).at X=f.at X-g.at X:=by unfold F.sub;rw[Vd];grind
theorem lZ (X:Int->Rat):F.zero.at X=0:=by show (0:Rat)+0=0;grind
theorem s3 (X:Int->Rat)(f:F)(c:Rat):(f.scale c).at X=f.at X*c:=by unfold F.scale;rw[Vd];show F.zero.at X+_=_;rw[lZ];grind
theorem t5 (X:Int->Rat)(v:Int):(F.var v).at X=X v:=by show (0:Rat)+(1*X v+0)=X v;grind
theorem t6 (X:Int->Rat)(q:Rat):(F.num q).at X=q:=by show q+0=q;grind
structure Pt (s:Scp) (X:Int->Rat):Prop where
 lo:∀ (i:Nat) x,s.q.r.lo[i]?=some x->x.q<=X i
 hi:∀ (i:Nat) x,s.q.r.hi[i]?=some x->X i<=x.q
 rows:∀ (i:Nat) f,s.q.r.rows[i]?=some f->0<=f.f.at X
 un:∀ (i:Nat) p,s.q.g.us[i]?=some p->0<=X (s.q.g.n+i)/\p.f.at X<=X (s.q.g.n+i)/\(X (s.q.g.n+i)=0\/X (s.q.g.n+i)=p.f.at X)
 ab:∀ d,d∈s.path->d.fits s.q=true->d.k=3->d.x.q<=X d.i
 be:∀ d,d∈s.path->d.fits s.q=true->d.k=4->X d.i<=d.x.q
 on:∀ d,d∈s.path->d.fits s.q=true->d.k=1->∀ (i:Nat) p,d.i=i->s.q.g.us[i]?=some p->0<=p.f.at X
 off:∀ d,d∈s.path->d.fits s.q=true->d.k=2->∀ (i:Nat) p,d.i=i->s.q.g.us[i]?=some p->p.f.at X<=0
def NJ (s:Scp) (X:Int->Rat) (m:Lem):Prop:=∀ (i:Nat) p,m.u=i->s.q.g.us[i]?=some p->if m.up=true then p.f.at X<=m.v.q else m.v.q<=p.f.at X
def mJ (s:Scp) (X:Int->Rat):Prop:=∀ m,m∈s.lems->NJ s X m
theorem Fw {s:Scp}{n unit:Int}{up:Bool}{v:Rat}(h:s.lem n unit up=some v):∃ m,m∈s.lems/\m.u=unit/\m.up=up/\m.v.q=v:=by unfold Scp.lem at h;split at h;{split at h;{rename_i m hm;split at h;{rename_i g;exact⟨m,zX hm,g.1,g.2,vO h⟩};{cases h}};{cases h}};{cases h}
theorem QN {s:Scp}{X:Int->Rat}(hl:mJ s X){n:Int}{i:Nat}{v:Rat}{p:A}(hp:s.q.g.us[i]?=some p)(h:s.lem n i false=some v):v<=p.f.at X:=by obtain⟨m,h1,h2,h3,h4⟩:=Fw h;have:=hl m h1 i p h2 hp;rw[h3,h4] at this;simpa using this
theorem H9 {s:Scp}{X:Int->Rat}(hl:mJ s X){n:Int}{i:Nat}{v:Rat}{p:A}(hp:s.q.g.us[i]?=some p)(h:s.lem n i true=some v):p.f.at X<=v:=by obtain⟨m,h1,h2,h3,h4⟩:=Fw h;have:=hl m h1 i p h2 hp;rw[h3,h4] at this;simpa using this
theorem FR {s:Scp}{k u:Int}(h:s.dcd k u=true):∃ d,d∈s.path/\d.k=k/\d.i=u/\d.fits s.q=true:=by unfold Scp.dcd at h;obtain⟨d,h1,h2⟩:=Vt.1 h;simp only[yK,decide_eq_true_eq] at h2;exact⟨d,h1,h2.1,h2.2.1,h2.2.2⟩
theorem P4 {s:Scp}{X:Int->Rat}(hP:Pt s X)(hl:mJ s X){r:Row}{i:Nat}{p:A}(hi:r.i=i)(hp:s.q.g.us[i]?=some p)(h:onB s r ((s.lem r.lo r.i false).getD 0) (s.lem r.lo r.i false).isSome=true):0<=p.f.at X:=by
 unfold onB at h;simp only[yK,Kq,decide_eq_true_eq] at h;rcases h.2 with⟨_,h2⟩|⟨h1,h2⟩;{obtain⟨d,g1,g2,g3,g4⟩:=FR h2;exact hP.on d g1 g4 g2 i p oM hp}
 ·(obtain⟨v,hv⟩:=iT.1 h1;rw[hv] at h2;rw[hi] at hv;have:=QN hl hp hv;have h3:¬v<0:=λg=>by have:=tF.2 g;simp only[YJ] at h2;omega);grind
theorem BD {s:Scp}{X:Int->Rat}(hP:Pt s X)(hl:mJ s X){r:Row}{i:Nat}{p:A}(hi:r.i=i)(hp:s.q.g.us[i]?=some p)(h:iD s r ((s.lem r.hi r.i true).getD 0) (s.lem r.hi r.i true).isSome=true):p.f.at X<=0:=by
 unfold iD at h;simp only[yK,Kq,decide_eq_true_eq] at h;rcases h.2 with⟨_,h2⟩|⟨h1,h2⟩;{obtain⟨d,g1,g2,g3,g4⟩:=FR h2;exact hP.off d g1 g4 g2 i p oM hp}
 ·(obtain⟨v,hv⟩:=iT.1 h1;rw[hv] at h2;rw[hi] at hv;have:=H9 hl hp hv;have h3:¬0<v:=λg=>by have:=cJ.2 g;simp only[YJ] at h2;omega);grind
theorem TW {p v l u:Rat}(h1:l<=p)(h2:p<=u)(h3:l<0)(h4:0<u)(h5:v=0\/v=p)(h6:0<=v)(h7:p<=v):0<=(p-l)*u-v*(u-l):=by rcases h5 with rfl|rfl;{have:=Kn (a:=p-l) (b:=u) (by grind) (by grind);grind};{have:=Kn (a:=- l) (b:=u-v) (by grind) (by grind);grind}
theorem Cq {s:Scp}{X:Int->Rat}(hP:Pt s X)(hl:mJ s X){r:Row}{f:F}(h:s.fUn r=some f):0<=f.at X:=by
 have two:∀ {c:Prop} [Decidable c] {x:F},(if c then some x else none)=some f->c/\x=f:=λh=>by split at h;{rename_i g;exact⟨g,vO h⟩};{cases h}
 unfold Scp.fUn at h;by_cases h0:0<=r.i/\r.i<s.q.g.us.length
 rotate_left
 {rw[if_neg h0] at h;cases h};rw[if_pos h0] at h;cases hp:s.q.g.us[r.i.toNat]? with
 |none=>rw[hp] at h;cases h
 |some p =>
 rw[hp] at h;dsimp only at h;have hi:r.i=(r.i.toNat:Nat):=by omega
 obtain⟨u1,u2,u3⟩:=hP.un _ p hp;rw[<-hi] at u1 u2 u3;unfold unF at h;by_cases h5:r.k=5;{rw[if_pos h5] at h;obtain⟨_,rfl⟩:=two h;rw[t5];exact u1};rw[if_neg h5] at h;by_cases h6:r.k=6;{rw[if_pos h6] at h;obtain⟨_,rfl⟩:=two h;rw[cC,t5];grind};rw[if_neg h6] at h;by_cases h7:r.k=7;{rw[if_pos h7] at h;obtain⟨g,rfl⟩:=two h;have:=P4 hP hl hi hp g;rw[Gv,lZ];grind};rw[if_neg h7] at h;by_cases h8:r.k=8;{rw[if_pos h8] at h;obtain⟨g,rfl⟩:=two h;have:=P4 hP hl hi hp g;rw[cC,t5];grind};rw[if_neg h8] at h;by_cases h9:r.k=9;{rw[if_pos h9] at h;obtain⟨g,rfl⟩:=two h;have:=BD hP hl hi hp g;rw[s3];grind};rw[if_neg h9] at h;by_cases h10:r.k=10;{rw[if_pos h10] at h;obtain⟨g,rfl⟩:=two h;have:=BD hP hl hi hp g;rw[s3,t5];grind};rw[if_neg h10] at h;by_cases h11:r.k=11;{rw[if_pos h11] at h;obtain⟨g,rfl⟩:=two h;obtain⟨v,hv⟩:=iT.1 g.1;rw[hv];rw[hi] at hv;have:=QN hl hp hv;rw[cC,t6,YJ];grind};rw[if_neg h11] at h;by_cases h12:r.k=12;{rw[if_pos h12] at h;obtain⟨g,rfl⟩:=two h;obtain⟨v,hv⟩:=iT.1 g.1;rw[hv];rw[hi] at hv;have:=H9 hl hp hv;rw[cC,t6,YJ];grind};rw[if_neg h12] at h;by_cases h13:r.k=13;{rw[if_pos h13] at h;obtain⟨g,rfl⟩:=two h;obtain⟨g1,g2,g3,g4⟩:=g;obtain⟨l,hv⟩:=iT.1 g1;obtain⟨u,hw⟩:=iT.1 g2;rw[hv,YJ] at g3 ⊢;rw[hw,YJ] at g4 ⊢;rw[hi] at hv hw;have e1:=QN hl hp hv;have e2:=H9 hl hp hw;have:=TW e1 e2 (tF.1 g3) (cJ.1 g4) u3 u1 u2;rw[cC,s3,s3,cC,t6,t5];exact this};rw[if_neg h13] at h;cases h
theorem B9 {s:Scp}{X:Int->Rat}(hP:Pt s X){r:Row}{f:F}(h:s.fIn r=some f):0<=f.at X:=by
 unfold Scp.fIn at h;by_cases h0:r.plain=true/\0<=r.i
 rotate_left
 {rw[if_neg h0] at h;cases h};rw[if_pos h0] at h;have hi:r.i=(r.i.toNat:Nat):=by omega
 by_cases h1:r.k=1;{rw[if_pos h1] at h;obtain⟨y,hy,rfl⟩:=ZF.1 h;have:=hP.lo _ y hy;rw[<-hi] at this;rw[cC,t5,t6];grind};rw[if_neg h1] at h;by_cases h2:r.k=2;{rw[if_pos h2] at h;obtain⟨y,hy,rfl⟩:=ZF.1 h;have:=hP.hi _ y hy;rw[<-hi] at this;rw[cC,t5,t6];grind};rw[if_neg h2] at h;by_cases h3:r.k=3;{rw[if_pos h3] at h;obtain⟨y,hy,rfl⟩:=ZF.1 h;have:=hP.rows _ y hy;rw[Gv,lZ];grind};rw[if_neg h3] at h;by_cases h4:r.k=4
 ·rw[if_pos h4] at h;cases hd:s.path[r.i.toNat]? with
  |none=>rw[hd] at h;cases h
  |some d =>
   rw[hd] at h;dsimp only at h;have hm:=zX hd;by_cases hf:d.fits s.q=true;{rw[if_pos hf] at h;by_cases k3:d.k=3;{rw[if_pos k3] at h;obtain rfl:=vO h;have:=hP.ab d hm hf k3;rw[cC,t5,t6];grind};{rw[if_neg k3] at h;by_cases k4:d.k=4;{rw[if_pos k4] at h;obtain rfl:=vO h;have:=hP.be d hm hf k4;rw[s3,cC,t5,t6];grind};{rw[if_neg k4] at h;cases h}}};{rw[if_neg hf] at h;cases h}
 rw[if_neg h4] at h;cases h
theorem DA {s:Scp}{X:Int->Rat}(hP:Pt s X)(hl:mJ s X){r:Row}{f:F}(h:s.fm r=some f):0<=f.at X:=by unfold Scp.fm at h;split at h;{cases h};{split at h;{exact B9 hP h};{exact Cq hP hl h}}
theorem Xu {s:Scp}{X:Int->Rat}(hP:Pt s X)(hl:mJ s X):∀ {l:List Mult} {acc f:F},(∀ m,m∈l->0<=m.c.q)->0<=acc.at X->sumL s acc l=some f->0<=f.at X
 |[],acc,f,_,h0,h=>by obtain rfl:=vO h;exact h0
 |m::r,acc,f,hc,h0,h=>by
  unfold sumL at h;cases hm:s.fm m.row with
  |none=>rw[hm] at h;cases h
  |some g =>
   rw[hm] at h;refine Xu hP hl (λx hx=>hc x (xQ _ hx)) ?_ h;have h1:=DA hP hl hm;have h2:=hc m xV;have:=Kn h1 h2;rw[Gv,s3];grind
theorem FW:∀ {l:List Mult} {p:Option Row},uN p l=true->∀ m,m∈l->0<=m.c.q
 |[],_,_,m,h=>absurd h (by simp)| a::r,p,hc,m,h=>by unfold uN at hc;simp only[yK,decide_eq_true_eq] at hc;rcases yI.1 h with rfl|h;{have:=cJ.1 hc.1;grind};{exact FW hc.2.2.2 m h}
theorem Dj {s:Scp}{X:Int->Rat}(hP:Pt s X)(hl:mJ s X){l:List Mult}(h:(s.sum l).1=0):0<=(s.sum l).2.at X:=by
 unfold Scp.sum at h ⊢;by_cases hc:uN none l=false;{rw[if_pos hc];rw[lZ];grind}
 ·rw[if_neg hc];cases hs:sumL s F.zero l with
  |none=>dsimp only;rw[lZ];grind| some f=>exact Xu hP hl (FW (by simpa using hc)) (by rw[lZ];grind) hs
theorem ND {f:F}{X:Int->Rat}(h:f.ts.length=0):f.at X=f.c:=by show f.c+evX X f.ts=f.c;rw[Kp.1 h];show f.c+0=f.c;grind
theorem o4 {s:Scp}{X:Int->Rat}(hP:Pt s X)(hl:mJ s X){f:A}{l:List Mult}(h:s.proves f l=true):f.valid 9223372036854775807=true/\0<=f.f.at X:=by
 unfold Scp.proves at h;simp only[yK,decide_eq_true_eq] at h;obtain⟨h1,h2,h3,h4⟩:=h;refine⟨h2,?_⟩;have e1:=Dj hP hl h1;have e2:=cC X f.f (s.sum l).2;rw[ND h3] at e2;have e3:¬(f.f.sub (s.sum l).2).c<0:=λg=>by have:=tF.2 g;omega
 grind
theorem Pt.pre {s:Scp}{X:Int->Rat}(hP:Pt s X)(i:Nat):Pt (s.pre i) X:=⟨hP.lo,hP.hi,hP.rows,hP.un,hP.ab,hP.be,hP.on,hP.off⟩
theorem Ga {s:Scp}{X:Int->Rat}(hP:Pt s X)(hl:mJ s X){m:Lem}(h:s.lemB m=true):NJ s X m:=by
 unfold Scp.lemB at h;simp only[yK,decide_eq_true_eq] at h;intro i p hi hp;have hp':s.q.g.us[m.u.toNat]?=some p:=by rw[hi];exact hp
 have h4:=h.2.2.2;rw[hp'] at h4;have:=(o4 hP hl h4).2;rw[qP] at this;unfold Lem.form at this;split;{rename_i hu;rw[if_pos hu,s3,cC,t6] at this;grind};{rename_i hu;rw[if_neg hu,cC,t6] at this;grind}
theorem nI {s:Scp}{X:Int->Rat}(hP:Pt s X):∀ {l:List Lem} {i:Nat},s.lems.drop i=l->vV s i l=true->(∀ m,m∈s.lems.take i->NJ s X m)->mJ s X
 |[],i,hd,_,h=>λm hm=>h m (by rw[yW (List.drop_eq_nil_iff.1 hd)];exact hm)| a::r,i,hd,hf,h=>by
  (unfold vV at hf;simp only[yK] at hf;have ha:s.lems[i]?=some a:=by rw[<-List.head?_drop,hd];rfl);have h1:=Ga (hP.pre i) h hf.1
  refine nI hP (i:=i+1) (by rw[<-List.tail_drop,hd];rfl) hf.2 (λm hm=>?_);rw[dI,ha] at hm;rcases uQ.1 hm with g|g;{exact h m g}
  ·(obtain rfl:m=a:=by simpa using g);exact h1
theorem KM {s:Scp}{X:Int->Rat}(hP:Pt s X)(h:s.scopeB=true):mJ s X:=by unfold Scp.scopeB at h;simp only[yK] at h;exact nI hP (i:=0) rfl h.2.2 (λm hm=>absurd hm (by simp))
end Go.Proofs.YtaeaffgjdcigoaaGreat
