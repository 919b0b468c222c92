/- A part of the proof: RwC, RgA, RgB. -/
import Derived.Test.YtboocdbmnfjomaaGreatV22
import Derived.Test.YtboocdbmnfjomaaGreatV21
set_option linter.all false
namespace Go.Proofs.YtboocdbmnfjomaaGreat
open Go
set_option maxRecDepth 100000
set_option maxHeartbeats 1000000
def F.zero:F:=⟨[],0⟩
theorem dP:fA F.zero=⟨[],R0⟩:=by show (⟨[],zK 0⟩:A)=_;rw[uI]
def fits_one:Fits 1 1:=mV (z:=1) (by decide) (by decide)
def pP (v:Int):(F.var v).fit 1:=⟨⟨by show 1<_;decide,λt ht=>by
 have:t=(v,1):=by grind [F.var]
 rw[this];exact fits_one⟩,wJ (by decide)⟩
def aE {k:Nat}{q:Rat}(h:Fits k q):(F.num q).fit k:=⟨⟨by show 0<_;decide,λt ht=>absurd ht (by simp[F.num])⟩,h⟩
def VR {f g:F}{c:Rat}{k m:Nat}(hf:f.fit k)(hg:g.fit k)(hc:Fits m c)(hl:f.ts.length+g.ts.length<2^38):(f.merge g c).fit (2*k+m+1) :=
 ⟨⟨xR (aF _ _ _) hl,nQ hc hf.t.fit hg.t.fit⟩,(qE hf.c (wG hg.c hc)).mono oM⟩
def uZ:Fits 1 (-1):=bM fits_one
def HL {f g:F}{k:Nat}(hf:f.fit k)(hg:g.fit k)(hl:f.ts.length+g.ts.length<2^38):(f.sub g).fit (2*k+2):=(VR hf hg uZ hl).mono oM
def Zq {f:F}{c:Rat}{k m:Nat}(hf:f.fit k)(hc:Fits m c)(hk:1<=k):(f.scale c).fit (2*k+m+1):=VR ⟨⟨by grind,λt ht=>absurd ht (by simp)⟩,wJ hk⟩ hf hc (by show 0+_<_;have:=hf.t.len;omega)
def AK (f g:F):(f.sub g).ts.length<=f.ts.length+g.ts.length:=aF _ _ _
def VB (f:F)(c:Rat):(f.scale c).ts.length<=f.ts.length:=vF (aF _ _ _) (by simp)
def Scp.fIn (s:Scp) (r:Row):Option F :=
 if r.plain=true/\0<=r.i then
  if r.k=1 then s.q.r.lo[r.i.toNat]?.map λx=>(F.var r.i).sub (F.num x.q)
  else if r.k=2 then s.q.r.hi[r.i.toNat]?.map λx=>(F.num x.q).sub (F.var r.i)
  else if r.k=3 then s.q.r.rows[r.i.toNat]?.map λf=>f.f.add F.zero
  else if r.k=4 then match s.path[r.i.toNat]? with
   |some d=>if d.fits s.q=true then (if d.k=3 then some ((F.var d.i).sub (F.num d.x.q)) else if d.k=4 then some (((F.var d.i).sub (F.num d.x.q)).scale (-1)) else none) else none| none=>none
  else none
 else none
def S7 (s:Scp)(r:Row)(hs:s.sz (2^28)):zH 83 [sv s,rwv r] (.tup [fv ((s.fIn r).getD F.zero),zM ((s.fIn r).isSome)]):=by
 refine sF Tryz.f83 ?_;have cpl:=Ka r;have hlo:=hs.q.r.lo.sz;have hhi:=hs.q.r.hi.sz;have hrw:=hs.q.r.rows.sz;have hpa:=hs.path.sz;have hrl:=hs.q.r.rows.len;have hft:∀ d,d∈s.path->zH 136 [qv s.q,dv d] (zM (d.fits s.q)):=λd hd=>Kb s.q d ((hpa d hd).mono (by decide));have hno:¬(r.plain=true/\0<=r.i)->s.fIn r=none:=λh=>if_neg h;have hyes:r.plain=true->0<=r.i->s.fIn r=if r.k=1 then s.q.r.lo[r.i.toNat]?.map λx=>(F.var r.i).sub (F.num x.q)
  else if r.k=2 then s.q.r.hi[r.i.toNat]?.map λx=>(F.num x.q).sub (F.var r.i)
  else if r.k=3 then s.q.r.rows[r.i.toNat]?.map λf=>f.f.add F.zero
  else if r.k=4 then match s.path[r.i.toNat]? with
   |some d=>if d.fits s.q=true then (if d.k=3 then some ((F.var d.i).sub (F.num d.x.q)) else if d.k=4 then some (((F.var d.i).sub (F.num d.x.q)).scale (-1)) else none) else none| none=>none
  else none:=λh1 h2=>if_pos ⟨h1,h2⟩
 obtain⟨o,ho⟩:∃ o,o=s.fIn r:=⟨_,rfl⟩;rw[<-ho] at hno hyes ⊢;obtain⟨W,hW⟩:∃ W,W=fA (o.getD F.zero):=⟨_,rfl⟩;obtain⟨b,hb⟩:∃ b,b=o.isSome:=⟨_,rfl⟩;rw[show fv (o.getD F.zero)=av W by rw[hW],<-hb];have fin2:∀ f,o=some f->W=fA f/\b=true:=λf h=>by grind
 have fin1:o=none->W=⟨[],R0⟩/\b=false:=λh=>by grind [dP]
 clear hW hb ho hs;obtain⟨wt,w1,w2,w3⟩:=W;have fin3:o=none->wt=[]/\w1=false/\w2=[]/\w3=[]/\b=false:=λh=>by grind
 clear fin1;generalize r.plain=pl at *;obtain⟨⟨⟨gn,us,os⟩,⟨lo,hi,rows⟩,⟨ts,c1,c2,c3⟩⟩,path,lems⟩:=s;obtain⟨k,i,rlo,rhi⟩:=r;simp only at hlo hhi hrw hpa hft hno hyes hrl;cbv;refine dR 7 (by cbv) (by cbv) ?_;cbv;refine cA cpl ?_;cbv;refine yI (λe1=>?_) (λe1=>?_)
 rotate_left
 {subst e1;cbv;obtain⟨g0,g1,g2,g3,g4⟩:=fin3 (hno (λh=>absurd h.1 (by decide)));subst g0 g1 g2 g3 g4;exact rA};subst e1;cbv;refine zG (λe2=>?_) (λe2=>?_);{cbv;obtain⟨g0,g1,g2,g3,g4⟩:=fin3 (hno (λh=>absurd h.2 (by grind)));subst g0 g1 g2 g3 g4;exact rA};cbv;have hi0:0<=i:=by exact om
 have hit:((i.toNat:Nat):Int)=i:=by omega
 have ho:=hyes rfl hi0;clear hno hyes e2;have hk:k=1\/k=2\/k=3\/k=4\/(k<=0\/5<=k):=by omega
 rcases hk with rfl|rfl|rfl|rfl|hk
 ·refine wU (by simp) ?_;cbv;refine zG (λe3=>?_) (λe3=>?_)
  ·(cbv;rw[zB] at e3;obtain⟨x,hx⟩:∃ x,lo[i.toNat]?=some x:=yB (by exact om);have hxs:=hlo x (yE hx);have cv:=Uz i;have cn:=Zs x (hxs.mono (by decide));have fx:Fits (2^28) x.q:=hxs.fits (by decide);have cs:=pS (fA (F.var i)) (fA (F.num x.q)) ((pP i).fA.mono (by decide)) ((aE fx).fA.mono (by decide));rw[dO,dO] at cs;have ho2:=fin2 ((F.var i).sub (F.num x.q)) (by grind);dsimp only [fv] at cs cv cn;generalize (F.var i).sub (F.num x.q)=V at *;generalize fA V=U at *;generalize fA (F.var i)=V1 at *;generalize fA (F.num x.q)=V2 at *;obtain⟨v1t,v11,v12,v13⟩:=V1;obtain⟨v2t,v21,v22,v23⟩:=V2;obtain⟨ho3,hb⟩:=ho2;subst ho3 hb;obtain⟨x1,x2,x3⟩:=x;refine zP 9 (by cbv) ?_;cbv;refine dA cv ?_;cbv;refine wB (l:=lo) i.toNat om om jW cH (λx' hx'=>?_);obtain rfl:x'=⟨x1,x2,x3⟩:=by rw[hx] at hx';exact (qP hx').symm);cbv
   refine dA cn ?_;cbv;refine dA cs ?_;cbv;exact rA
  {cbv;refine yF (by simp) ?_;cbv;refine yF (by simp) ?_;cbv;refine zP 21 (by cbv) ?_;cbv;refine yF (by simp) ?_;cbv;obtain⟨g0,g1,g2,g3,g4⟩:=fin3 (by rw[ho,if_pos rfl,rM (by rw[zB] at e3;exact om)];rfl);subst g0 g1 g2 g3 g4;exact rA}
 ·refine yF (by simp) ?_;cbv;refine wU (by simp) ?_;cbv;refine zG (λe3=>?_) (λe3=>?_)
  ·(cbv;rw[zB] at e3;obtain⟨x,hx⟩:∃ x,hi[i.toNat]?=some x:=yB (by exact om);have hxs:=hhi x (yE hx);have cv:=Uz i;have cn:=Zs x (hxs.mono (by decide));have fx:Fits (2^28) x.q:=hxs.fits (by decide);have cs:=pS (fA (F.num x.q)) (fA (F.var i)) ((aE fx).fA.mono (by decide)) ((pP i).fA.mono (by decide));rw[dO,dO] at cs;have ho2:=fin2 ((F.num x.q).sub (F.var i)) (by grind);dsimp only [fv] at cs cv cn;generalize (F.num x.q).sub (F.var i)=V at *;generalize fA V=U at *;generalize fA (F.var i)=V1 at *;generalize fA (F.num x.q)=V2 at *;obtain⟨v1t,v11,v12,v13⟩:=V1;obtain⟨v2t,v21,v22,v23⟩:=V2;obtain⟨ho3,hb⟩:=ho2;subst ho3 hb;obtain⟨x1,x2,x3⟩:=x;refine wB (l:=hi) i.toNat om om jW cH (λx' hx'=>?_);obtain rfl:x'=⟨x1,x2,x3⟩:=by grind);cbv
   refine cA cn ?_;cbv;refine cA cv ?_;cbv;refine cA cs ?_;cbv;exact rA
  {cbv;refine yF (by simp) ?_;cbv;refine zP 21 (by cbv) ?_;cbv;refine yF (by simp) ?_;cbv;obtain⟨g0,g1,g2,g3,g4⟩:=fin3 (by rw[ho,if_neg (by decide),if_pos rfl,rM (by rw[zB] at e3;exact om)];rfl);subst g0 g1 g2 g3 g4;exact rA}
 ·refine yF (by simp) ?_;cbv;refine yF (by simp) ?_;cbv;refine wU (by simp) ?_;cbv;refine zG (λe3=>?_) (λe3=>?_)
  ·(cbv;rw[zB] at e3;obtain⟨x,hx⟩:∃ x,rows[i.toNat]?=some x:=yB (by exact om);have hxs:=hrw x (yE hx);have cs:=D2 x ⟨[],R0⟩ (hxs.mono (by decide)) ⟨⟨by decide,λ_ h=>absurd h (by simp)⟩,⟨by decide,by decide⟩⟩;have e0:A.f ⟨[],R0⟩=F.zero:=by rw[<-dP,dO]);rw[e0] at cs
   (have ho2:=fin2 (x.f.add F.zero) (by grind);dsimp only [fv] at cs;generalize x.f.add F.zero=V at *;generalize fA V=U at *;obtain⟨ho3,hb⟩:=ho2;subst ho3 hb;obtain⟨xt,x1,x2,x3⟩:=x;refine wB (l:=rows) i.toNat om om kX fI (λx' hx'=>?_);obtain rfl:x'=⟨xt,x1,x2,x3⟩:=by grind);cbv
   refine xI rfl okA cs rfl ?_;cbv;exact rA
  {cbv;refine zP 21 (by cbv) ?_;cbv;refine yF (by simp) ?_;cbv;obtain⟨g0,g1,g2,g3,g4⟩:=fin3 (by rw[ho,if_neg (by decide),if_neg (by decide),if_pos rfl,rM (by rw[zB] at e3;exact om)];rfl);subst g0 g1 g2 g3 g4;exact rA}
 ·refine yF (by simp) ?_;cbv;refine yF (by simp) ?_;cbv;refine yF (by simp) ?_;cbv;refine zP 21 (by cbv) ?_;cbv;refine wU (by simp) ?_;cbv;refine zX (λe3=>?_) (λe3=>?_)
  ·(cbv;rw[zB] at e3;obtain⟨d,hd⟩:∃ d,path[i.toNat]?=some d:=yB (by exact om);have hds:=hpa d (yE hd);have cf:=hft d (yE hd);have idx:∀ {K:List PV->Prop},K (dc d)->IdxOk 5 (λ_=>enc dc path) (λ_=>i) K:=λhK=>wB (l:=path) i.toNat hit.symm (by exact om) tC iW (λm' hm'=>by grind);have cv:=Uz d.i;have cn:=Zs d.x (hds.mono (by decide));have fx:Fits (2^28) d.x.q:=hds.fits (by decide);have cs:=pS (fA (F.var d.i)) (fA (F.num d.x.q)) ((pP d.i).fA.mono (by decide)) ((aE fx).fA.mono (by decide));rw[dO,dO] at cs;have cm:=Xl (fA ((F.var d.i).sub (F.num d.x.q))) ((HL ((pP d.i).mono (m:=2^28) (by decide)) (aE fx) (by show 1+0<2^38;decide)).fA.mono (by decide));rw[dO] at cm;have ho':o=if d.fits ⟨⟨gn,us,os⟩,⟨lo,hi,rows⟩,⟨ts,c1,c2,c3⟩⟩=true then (if d.k=3 then some ((F.var d.i).sub (F.num d.x.q)) else if d.k=4 then some (((F.var d.i).sub (F.num d.x.q)).scale (-1)) else none) else none:=by rw[ho,if_neg (by decide),if_neg (by decide),if_neg (by decide),if_pos rfl,hd]);clear ho
   generalize d.fits ⟨⟨gn,us,os⟩,⟨lo,hi,rows⟩,⟨ts,c1,c2,c3⟩⟩=ft at *;dsimp only [fv] at cs cv cn cm;generalize hV:(F.var d.i).sub (F.num d.x.q)=V at *;generalize V.scale (-1)=V' at *;have fA1:=fin2 V;have fA2:=fin2 V';generalize fA V=U at *;generalize fA V'=U' at *;generalize fA (F.var d.i)=V1 at *;generalize fA (F.num d.x.q)=V2 at *;obtain⟨ut,u1,u2,u3⟩:=U;obtain⟨ut',u1',u2',u3'⟩:=U';obtain⟨v1t,v11,v12,v13⟩:=V1;obtain⟨v2t,v21,v22,v23⟩:=V2;obtain⟨dk,di,d1,d2,d3⟩:=d;simp only at ho';refine idx ?_;cbv;refine dA cf ?_;cbv;refine zZ (λe4=>?_) (λe4=>?_);{subst e4;cbv;refine idx ?_;cbv;refine dR 8 (by cbv) (by cbv) ?_;cbv;refine dA cv ?_;cbv;refine dA cn ?_;cbv;refine dA cs ?_;cbv;refine zG (λe5=>?_) (λe5=>?_);{cbv;obtain⟨g1,g2⟩:=fA1 (by rw[ho',if_pos rfl,if_pos e5]);cases g1;subst g2;exact rA};{cbv;refine zG (λe6=>?_) (λe6=>?_);{cbv;obtain⟨g1,g2⟩:=fA2 (by rw[ho',if_pos rfl,if_neg e5,if_pos e6]);cases g1;subst g2;refine cA cm ?_;cbv;exact rA};{cbv;obtain⟨g0,g1,g2,g3,g4⟩:=fin3 (by rw[ho',if_pos rfl,if_neg e5,if_neg e6]);subst g0 g1 g2 g3 g4;exact rA}}};{subst e4;cbv;obtain⟨g0,g1,g2,g3,g4⟩:=fin3 (by rw[ho',if_neg (by decide)]);subst g0 g1 g2 g3 g4;exact rA}
  {cbv;obtain⟨g0,g1,g2,g3,g4⟩:=fin3 (by rw[ho,if_neg (by decide),if_neg (by decide),if_neg (by decide),if_pos rfl,rM (by rw[zB] at e3;exact om)]);subst g0 g1 g2 g3 g4;exact rA}
 {refine yF (by grind) ?_;cbv;refine yF (by grind) ?_;cbv;refine yF (by grind) ?_;cbv;refine zP 21 (by cbv) ?_;cbv;refine yF (by grind) ?_;cbv;obtain⟨g0,g1,g2,g3,g4⟩:=fin3 (by grind);subst g0 g1 g2 g3 g4;exact rA}
abbrev tvq (v:Int) (x:R):PV:=.agg [iV v,zM x.neg,nat x.num,nat x.den]
def sNz (l:List (Int×Rat))(v:Int)(q:Rat)(hq:Fits (2^36) q)(hl:l.length<2^39):Sound 68 [zT 100 4 l.length,tvq v (zK q)] [] [(100,zW 4 (enc tc (tR l)))] (zT 100 4 ((pcr l v q).length)) [] [(100,zW 4 (enc tc (tR (pcr l v q))))]:=by refine sF Tryz.f68 ?_;have cs:=s35 (zK q) (by have:=(z5 hq).n;omega);rw[yD] at cs;have h1:yG q≠0->pcr l v q=l++[(v,q)]:=λh=>if_neg (sgnQ_ne.1 h);have h2:yG q=0->pcr l v q=l:=λh=>if_pos (by grind [sgnQ_ne]);have hR:tR [(v,q)]=[(v,zK q)]:=rfl;generalize pcr l v q=P at *;generalize yG q=sg at *;generalize zK q=W at *;clear hq;cbv;refine cA cs ?_;cbv;refine zG (λh=>?_) (λh=>?_);{have hP:=h2 h;cbv;subst hP;exact Z9 100 (.refl _) rfl rfl rfl (by cbv;exact lR)};{have hP:=h1 h;cbv;subst hP;refine xT Ul rfl rfl rfl (by simp only[zB,vR]) rfl ⟨by simp[zI,y7]⟩ (zV oM (by simp only[zB,vR,zI,fH,dU];omega)) rfl ?_;cbv;refine Z9 (ps':=⟨[(4,zT 13 4 ((l++[(v,q)]).length))],[(13,zW 4 (enc tc (tR (l++[(v,q)]))))]⟩) 13 (.le ?_ ?_ rfl) rfl rfl rfl ?_;{cbv;exact⟨zR rfl (by simp[zB,vR,zI]),trivial⟩};{cbv;exact⟨zC (by rw[Dt,hR,<-z3];rfl),trivial⟩};{cbv;exact lR}}
def wE (v:Int) (q:Rat):Bool->List (Int×Rat)->List (Int×Rat)
 |d,[]=>if d=true then [] else pc v q []| d,t::r=>if t.1=v then pc t.1 (t.2+q) (wE v q true r) else if d=false/\v<t.1 then pc v q (pc t.1 t.2 (wE v q true r)) else pc t.1 t.2 (wE v q d r)
def ME (l:List (Int×Rat))(fc:R)(v:Int)(c:R)(hl:Tfit (2^30) l)(hc:c.sz (2^30)):zH 193 [av ⟨tR l,fc⟩,iV v,rv c] (av ⟨tR (wE v c.q false l),fc⟩):=by
 refine sF Tryz.f193 ?_;have cfc:=hc.fits (by decide);have cc:=s47 c (hc.mono (by decide));have hll:=hl.len;have hadd:∀ t,t∈l->zH 51 [rv (zK t.2),rv c] (rv (zK (t.2+c.q))):=λt ht=>by have:=s44 (zK t.2) c ((z5 (hl.fit t ht)).mono (by decide)) (hc.mono (by decide));rw[yD] at this;omega
 have hasz:∀ t,t∈l->Fits (2^36) (t.2+c.q):=λt ht=>(qE (hl.fit t ht) cfc).mono (by decide);have htsz:∀ t,t∈l->Fits (2^36) t.2:=λt ht=>(hl.fit t ht).mono (by decide);have hqsz:Fits (2^36) c.q:=cfc.mono (by decide);generalize hM:wE v c.q false l=M;generalize hcq:c.q=q at *;clear hl hc hcq cfc;cbv;refine zY (σ:=List (Int×Rat)×Nat×Bool) (λs=>⟨[(1,iV v),(3,.ptr 3 0),(5,.ptr 5 0),(6,.ptr 6 0),(7,zT 200 4 s.1.length),(8,zM s.2.2),(9,iV s.2.1)],
   [(3,.box [tsv (tR l),zM fc.neg,nat fc.num,nat fc.den]),(5,.box [zM c.neg,nat c.num,nat c.den]),(6,.box [.nil,.ff,.nil,.nil]),(200,zW 4 (enc tc (tR s.1)))]⟩)
  (λs=>s.2.1<=l.length/\s.1.length<=2*s.2.1/\M=s.1++wE v q s.2.2 (l.drop s.2.1)) (λs=>l.length-s.2.1)
  ([],0,false) ⟨om,by simp,hM.symm⟩
  (.trans (.le (ps':=⟨[(1,iV v),(3,.ptr 3 0),(5,.ptr 5 0),(6,.ptr 6 0),(7,.nil),(8,zM false),(9,iV (((0:Nat):Int)))],[(3,.box [tsv (tR l),zM fc.neg,nat fc.num,nat fc.den]),(5,.box [zM c.neg,nat c.num,nat c.den]),(6,.box [.nil,.ff,.nil,.nil])]⟩) ?_ ?_ rfl)
   (.trans (.adoptT (ps:=⟨[(1,iV v),(3,.ptr 3 0),(5,.ptr 5 0),(6,.ptr 6 0),(7,.nil),(8,zM false),(9,iV (((0:Nat):Int)))],[(3,.box [tsv (tR l),zM fc.neg,nat fc.num,nat fc.den]),(5,.box [zM c.neg,nat c.num,nat c.den]),(6,.box [.nil,.ff,.nil,.nil])]⟩) 200 4 7 rfl rfl) (.le ?_ ?_ rfl))) ?_
 {cbv;exact⟨lR,lR,lR,lR,lR,zO rfl,zF rfl,trivial⟩};{cbv;exact okA};{cbv;exact⟨lR,lR,lR,lR,zR rfl rfl,lR,lR,trivial⟩};{cbv;exact⟨okA,okA,okA,zC rfl,trivial⟩};intro s hs;obtain⟨h1,hL,hI⟩:=hs;generalize s.1=out at *;generalize s.2.1=i at *;generalize s.2.2=d at *;clear hM;cbv;refine zG (λh5=>?_) (λh5=>?_)
 ·cbv;refine wB (l:=tR l) i (by (grind) <;> (try simp only[zJ] at *) <;> omega) (by simp only[zB,vR] at h5 ⊢;exact om) wP wH (λt' ht'=>?_);obtain⟨t,ht,rfl⟩:∃ t,l[i]?=some t/\t'=(t.1,zK t.2):=by unfold tR at ht';grind
  (have hmem:=yE ht;have hlt:i<l.length:=(w8.1 ht).1;rw[yJ ht,show wE v q d (t::l.drop (i+1))=if t.1=v then pc t.1 (t.2+q) (wE v q true (l.drop (i+1))) else if d=false/\v<t.1 then pc v q (pc t.1 t.2 (wE v q true (l.drop (i+1)))) else pc t.1 t.2 (wE v q d (l.drop (i+1))) from rfl] at hI;have f1:t.1=v->M=pcr out t.1 (t.2+q)++wE v q true (l.drop (i+1)):=λe=>by rw[hI,if_pos e,dJ]);have f2:¬t.1=v->d=false->v<t.1->M=pcr (pcr out v q) t.1 t.2++wE v q true (l.drop (i+1)):=λe e2 e3=>by rw[hI,if_neg e,if_pos ⟨e2,e3⟩,dJ,dJ]
  (have f3:¬t.1=v->¬(d=false/\v<t.1)->M=pcr out t.1 t.2++wE v q d (l.drop (i+1)):=λe e2=>by rw[hI,if_neg e,if_neg e2,dJ]);clear hI
  obtain⟨Y,hY⟩:=ex (zK t.2);rw[hY];cbv;refine zG (λe1=>?_) (λe1=>?_);{have hI':M=pcr out t.1 (t.2+q)++wE v q true (l.drop (i+1)):=f1 e1;have ca:=hadd t hmem;have cz:=sNz out t.1 (t.2+q) (hasz t hmem) oM;have hpl:=dI out t.1 (t.2+q);generalize pcr out t.1 (t.2+q)=out' at *;generalize zK (t.2+q)=X at *;rw[hY] at ca;cbv;refine cA ca ?_;cbv;refine kW (λ_=>200) (Wk.sel _ [1,3,5,6,8,9,46,47] [3,5,6,200] rfl) cz ?_;cbv;refine⟨zE om om,(out',i+1,true),⟨om,om,hI'⟩,om,.le ?_ ?_ rfl⟩;{cbv;exact⟨lR,lR,lR,lR,lR,yN rfl,zF om,trivial⟩};{cbv;exact⟨okA,okA,okA,zC rfl,trivial⟩}};{cbv;refine yI (λe2=>?_) (λe2=>?_);{have hI':M=pcr out t.1 t.2++wE v q d (l.drop (i+1)):=f3 e1 (λh=>absurd (e2.symm.trans h.1) (by decide));have cz:=sNz out t.1 t.2 (htsz t hmem) oM;have hpl:=dI out t.1 t.2;generalize pcr out t.1 t.2=out' at *;rw[hY] at cz;cbv;refine kW (λ_=>200) (Wk.sel _ [1,3,5,6,8,9,46,47] [3,5,6,200] rfl) cz ?_;cbv;refine⟨zE om om,(out',i+1,d),⟨om,om,hI'⟩,om,.le ?_ ?_ rfl⟩;{cbv;exact⟨lR,lR,lR,lR,lR,lR,zF om,trivial⟩};{cbv;exact⟨okA,okA,okA,zC rfl,trivial⟩}};{cbv;refine zG (λe3=>?_) (λe3=>?_);{have hI':M=pcr (pcr out v q) t.1 t.2++wE v q true (l.drop (i+1)):=f2 e1 e2 e3;have cz1:=sNz out v q hqsz oM;have hpl1:=dI out v q;have cz2:=sNz (pcr out v q) t.1 t.2 (htsz t hmem) oM;have hpl2:=dI (pcr out v q) t.1 t.2;generalize pcr (pcr out v q) t.1 t.2=out2 at *;generalize pcr out v q=out1 at *;rw[hY] at cz2;generalize zK q=X at *;cbv;refine cA cc ?_;cbv;refine kW (λ_=>200) (Wk.sel _ [1,3,5,6,9,10,40,44] [3,5,6,10,200] rfl) cz1 ?_;cbv;refine kW (λ_=>200) (Wk.sel _ [1,3,5,6,8,9,46,47] [3,5,6,200] rfl) cz2 ?_;cbv;refine⟨zE om om,(out2,i+1,true),⟨om,om,hI'⟩,om,.le ?_ ?_ rfl⟩;{cbv;exact⟨lR,lR,lR,lR,lR,yN rfl,zF om,trivial⟩};{cbv;exact⟨okA,okA,okA,zC rfl,trivial⟩}};{have hI':M=pcr out t.1 t.2++wE v q d (l.drop (i+1)):=f3 e1 (λh=>e3 h.2);have cz:=sNz out t.1 t.2 (htsz t hmem) oM;have hpl:=dI out t.1 t.2;generalize pcr out t.1 t.2=out' at *;rw[hY] at cz;cbv;refine kW (λ_=>200) (Wk.sel _ [1,3,5,6,8,9,46,47] [3,5,6,200] rfl) cz ?_;cbv;refine⟨zE om om,(out',i+1,d),⟨om,om,hI'⟩,om,.le ?_ ?_ rfl⟩;{cbv;exact⟨lR,lR,lR,lR,lR,lR,zF om,trivial⟩};{cbv;exact⟨okA,okA,okA,zC rfl,trivial⟩}}}}
 ·(have hi:i=l.length:=by simp only[zB,vR] at h5;exact om);rw[hi,vE] at hI
  cbv;refine zZ (λe1=>?_) (λe1=>?_)
  ·(have hM':M=out:=by rw[hI,e1];exact vM _);cbv
   subst hM';refine bW _ (.trans (.le (ps':=⟨[(6,.ptr 6 0)],[(6,.box [zT 200 4 M.length,zM fc.neg,nat fc.num,nat fc.den]),(200,zW 4 (enc tc (tR M)))]⟩) ?_ ?_ rfl) (.frz 200 rfl rfl ?_ ?_)) rfl ?_;{cbv;exact okA};{cbv;exact⟨okA,zC rfl,trivial⟩};{exact⟨trivial,trivial⟩};{cbv;exact⟨⟨z6 (by simp[zB,vR]),trivial⟩,trivial⟩};{cbv;exact⟨zU (yU (by simp[zB,vR])),lR,lR,lR,trivial⟩}
  ·(have hM':M=pcr out v q:=by rw[hI,e1];show out++pc v q []=_;rw[<-dJ,vM]);have cz1:=sNz out v q hqsz oM;rw[<-hM'] at cz1;generalize zK q=X at *;cbv;refine cA cc ?_;cbv;refine kW (λ_=>200) (Wk.sel _ [3,6,51,55] [3,6,200] rfl) cz1 ?_;cbv;refine bW _ (.trans (.le (ps':=⟨[(6,.ptr 6 0)],[(6,.box [zT 200 4 M.length,zM fc.neg,nat fc.num,nat fc.den]),(200,zW 4 (enc tc (tR M)))]⟩) ?_ ?_ rfl) (.frz 200 rfl rfl ?_ ?_)) rfl ?_;{cbv;exact okA};{cbv;exact⟨okA,zC rfl,trivial⟩};{exact⟨trivial,trivial⟩};{cbv;exact⟨⟨z6 (by simp[zB,vR]),trivial⟩,trivial⟩};{cbv;exact⟨zU (yU (by simp[zB,vR])),lR,lR,lR,trivial⟩}
def sI (v:Int)(q:Rat):∀ {l:List (Int×Rat)},(∀ t,t∈l->t.1≠v)->Cn l->wE v q true l=l
 |[],_,_=>rfl| t::r,h,hc=>by have h1:=h t vH;have ih:=sI v q (λu hu=>h u (w6 _ hu)) hc.tail;rw[show wE v q true (t::r)=if t.1=v then pc t.1 (t.2+q) (wE v q true r) else if true=false/\v<t.1 then pc v q (pc t.1 t.2 (wE v q true r)) else pc t.1 t.2 (wE v q true r) from rfl];rw[if_neg h1,if_neg (by simp),ih];unfold pc;rw[if_neg hc.hd]
def XB (v:Int)(q:Rat)(t:Int×Rat)(r:List (Int×Rat)):wE v q false (t::r)=if t.1=v then pc t.1 (t.2+q) (wE v q true r) else if v<t.1 then pc v q (pc t.1 t.2 (wE v q true r)) else pc t.1 t.2 (wE v q false r):=by rw[show wE v q false (t::r)=if t.1=v then pc t.1 (t.2+q) (wE v q true r) else if false=false/\v<t.1 then pc v q (pc t.1 t.2 (wE v q true r)) else pc t.1 t.2 (wE v q false r) from rfl];grind
def nN {v:Int}{q:Rat}:∀ {d:Bool} {l:List (Int×Rat)} {u},u∈wE v q d l->u.1=v\/∃ t,t∈l/\t.1=u.1
 |true,[],u,h=>absurd h (by simp[wE])| false,[],u,h=>by
  rcases qI (show u∈pc v q [] from h) with rfl|h
  all_goals grind
 |d,t::r,u,h=>by
  unfold wE at h;split at h
  ·rcases qI h with rfl|h;{omega}
   ·rcases nN h with h|⟨w,h1,h2⟩
    all_goals grind
  ·split at h
   ·rcases qI h with rfl|h;{omega}
    ·rcases qI h with rfl|h;{grind}
     ·rcases nN h with h|⟨w,h1,h2⟩
      all_goals grind
   ·rcases qI h with rfl|h;{grind}
    ·rcases nN h with h|⟨w,h1,h2⟩
     all_goals grind
theorem Cn.plus {v:Int}{q:Rat}:∀ {l:List (Int×Rat)},Cn l->Cn (wE v q false l)
 |[],_=>Cn.pc Cn.nil (λu hu=>absurd hu (by simp))| t::r,h=>by rw[XB];split;{rename_i e;rw[sI v q (λu hu=>by have:=h.lt u hu;omega) h.tail];exact Cn.pc h.tail h.lt};{split;{rename_i e1 e2;rw[sI v q (λu hu=>by have:=h.lt u hu;omega) h.tail];refine Cn.pc (Cn.pc h.tail h.lt) λu hu=>?_;rcases qI hu with rfl|hu;{exact e2};{exact Int.lt_trans e2 (h.lt u hu)}};{rename_i e1 e2;refine Cn.pc (Cn.plus h.tail) λu hu=>?_;rcases nN hu with e|⟨w,g1,g2⟩;{omega};{rw[<-g2];exact h.lt w g1}}}
def GC {v:Int}{q:Rat}(w:Int):∀ {l:List (Int×Rat)},Cn l->co (wE v q false l) w=co l w+if v=w then q else 0
 |[],_=>by show co (pc v q []) w=_;grind [l6]| t::r,h=>by rw[XB];split;{rename_i e;rw[sI v q (λu hu=>by have:=h.lt u hu;omega) h.tail,l6];grind [co]};{split;{rw[sI v q (λu hu=>by have:=h.lt u hu;omega) h.tail,l6,l6];grind [co]};{rw[l6,GC w h.tail];grind [co]}}
def plusAll (l g:List (Int×Rat)):List (Int×Rat):=g.foldl (λa t=>wE t.1 t.2 false a) l
theorem Cn.plusAll:∀ {g l:List (Int×Rat)},Cn l->Cn (plusAll l g)
 |[],l,h=>h| t::g,l,h=>Cn.plusAll (g:=g) h.plus
theorem iY (w:Int):∀ {g l:List (Int×Rat)},Cn l->co (plusAll l g) w=co l w+co g w
 |[],l,h=>by show co l w=_;grind [co]| t::g,l,h=>by show co (plusAll (wE t.1 t.2 false l) g) w=_;rw[iY w h.plus,GC w h];grind [co]
def Ki {l g:List (Int×Rat)}(hl:Cn l)(hg:Cn g):plusAll l g=mrg 1 l g :=
 Cn.ext hl.plusAll (hl.mrg hg) λv=>by grind [iY,m6]
def UM (l g:List (Int×Rat))(t:Int×Rat):plusAll l (g++[t])=wE t.1 t.2 false (plusAll l g):=by grind [plusAll]
theorem Cn.co_mem {l:List (Int×Rat)}(h:Cn l){t}(ht:t∈l):co l t.1=t.2:=by
 induction l with
 |nil=>grind| cons a r ih =>
  rcases yS.1 ht with rfl|ht;{exact cT h};{have:=h.lt t ht;simp only[co,if_neg (show a.1≠t.1 by omega),ih h.tail ht];grind}
theorem TN {k:Nat}{l:List (Int×Rat)}(h:Cn l)(hf:∀ t,t∈l->Fits k t.2)(hk:1<=k)(v:Int):Fits k (co l v):=by by_cases hx:∃ t,t∈l/\t.1=v;{obtain⟨t,h1,rfl⟩:=hx;rw[h.co_mem h1];grind};{rw[YU λt ht e=>hx ⟨t,ht,e⟩];exact wJ hk}
theorem Cn.take {l:List (Int×Rat)}(h:Cn l)(n:Nat):Cn (l.take n):=⟨h.s.sublist (List.take_sublist n l),λt ht=>h.n t (nC ht)⟩
def ZA (v:Int)(q:Rat):∀ (d:Bool) (l:List (Int×Rat)),(wE v q d l).length<=l.length+(if d=true then 0 else 1)
 |true,[]=>by simp[wE]| false,[]=>by grind [rP,wE]| d,t::r=>by have h1:=ZA v q true r;have h2:=ZA v q d r;unfold wE;split;{have:=rP t.1 (t.2+q) (wE v q true r);grind};{split;{rename_i e;have g1:=rP t.1 t.2 (wE v q true r);have g2:=rP v q (pc t.1 t.2 (wE v q true r));grind};grind [rP]}
theorem Yc:∀ (g l:List (Int×Rat)),(plusAll l g).length<=l.length+g.length
 |[],l=>by simp[plusAll]| t::g,l=>by have h1:=Yc g (wE t.1 t.2 false l);have h2:=ZA t.1 t.2 false l;show (plusAll (wE t.1 t.2 false l) g).length<=_;grind
def Kj {k m:Nat}{l g:List (Int×Rat)}(hl:Cn l)(hg:Cn g)(hfl:∀ t,t∈l->Fits k t.2)(hfg:∀ t,t∈g->Fits m t.2)(hk:1<=k)(hm:1<=m):∀ t,t∈plusAll l g->Fits (k+m+1) t.2:=λt ht=>by rw[<-hl.plusAll.co_mem ht,iY _ hl];grind [qE,TN]
def Xm (x:R):zH 91 [rv x] (av ⟨[],x⟩):=by refine sF Tryz.f91 ?_;cbv;exact rA
def Zu (v:Int):zH 22 [iV v] (fv (F.var v)):=by
 refine sF Tryz.f22 ?_;have c1:=s32 1 (by decide) (by decide);have e:fv (F.var v)=.agg [.sl (λ_=>[y7 [iV v,zM ((zK ((1:Int):Rat)).neg),nat (zK ((1:Int):Rat)).num,nat (zK ((1:Int):Rat)).den]]),zM R0.neg,nat R0.num,nat R0.den]:=by show av ⟨[(v,zK 1)],zK 0⟩=_;rw[uI];rfl
 rw[e];clear e;generalize zK ((1:Int):Rat)=o at *;cbv;refine cA c1 ?_;cbv
 (refine rC ?_;cbv)
 exact⟨zU rfl,zO rfl,xC rfl,xC rfl,trivial⟩
theorem Dr (l:List (Int×R)):(tq l).length=l.length:=by simp[tq]
def UX (c:Rat)(b:Int×Rat)(bb):mrg c [] (b::bb)=pc b.1 (b.2*c) (mrg c [] bb):=by rw[mrg]
def eS (f:A)(c:R)(hf:f.sz (2^31))(hc:c.sz (2^31)):zH 24 [av f,rv c] (fv (f.f.scale c.q)):=by
 refine sF Tryz.f24 ?_;have ccf:=hc.fits (by decide);have hst:=hf.t.sz;have hll:=hf.t.len;have cm:=s77 f.c c hf.c hc;have hmul:∀ b:Int×R,b∈f.ts->zH 52 [rv b.2,rv c] (rv (zK (b.2.q*c.q))):=λb hb=>s77 b.2 c (hst b hb) hc;have hmsz:∀ b:Int×R,b∈f.ts->Fits (2^36) (b.2.q*c.q):=λb hb=>(wG ((hst b hb).fits (by decide)) ccf).mono (by decide);have e:fv (f.f.scale c.q)=.agg [tsv (tR (mrg c.q [] (tq f.ts))),zM ((zK (f.c.q*c.q)).neg),nat (zK (f.c.q*c.q)).num,nat (zK (f.c.q*c.q)).den]:=by show av ⟨tR (mrg c.q [] (tq f.ts)),zK (0+f.c.q*c.q)⟩=_;rw[Rat.zero_add]
 rw[e];clear e;generalize hM:mrg c.q [] (tq f.ts)=M;generalize zK (f.c.q*c.q)=W at *;generalize hcq:c.q=q at *;clear hf hc hcq ccf;cbv;refine cA cm ?_;cbv;refine zY (σ:=List (Int×Rat)×Nat) (λs=>⟨[(2,.ptr 2 0),(3,.ptr 3 0),(4,.ptr 4 0),(5,.ptr 5 0),(6,iV s.2)],
   [(2,.box [tsv f.ts,zM f.c.neg,nat f.c.num,nat f.c.den]),(3,.box [zM c.neg,nat c.num,nat c.den]),(4,.box [.nil,.ff,.nil,.nil]),(5,.box [zT 200 4 s.1.length,zM W.neg,nat W.num,nat W.den]),(200,zW 4 (enc tc (tR s.1)))]⟩)
  (λs=>s.2<=f.ts.length/\s.1.length<=s.2/\M=s.1++mrg q [] (tq (f.ts.drop s.2))) (λs=>f.ts.length-s.2)
  ([],0) ⟨om,by simp,hM.symm⟩
  (.trans (.le (ps':=⟨[(2,.ptr 2 0),(3,.ptr 3 0),(4,.ptr 4 0),(5,.ptr 5 0),(6,iV (((0:Nat):Int)))],[(2,.box [tsv f.ts,zM f.c.neg,nat f.c.num,nat f.c.den]),(3,.box [zM c.neg,nat c.num,nat c.den]),(4,.box [.nil,.ff,.nil,.nil]),(5,.box [.nil,zM W.neg,nat W.num,nat W.den])]⟩) ?_ ?_ rfl)
   (.trans (.adoptB (ps:=⟨[(2,.ptr 2 0),(3,.ptr 3 0),(4,.ptr 4 0),(5,.ptr 5 0),(6,iV (((0:Nat):Int)))],[(2,.box [tsv f.ts,zM f.c.neg,nat f.c.num,nat f.c.den]),(3,.box [zM c.neg,nat c.num,nat c.den]),(4,.box [.nil,.ff,.nil,.nil]),(5,.box [.nil,zM W.neg,nat W.num,nat W.den])]⟩) (cs:=[.nil,zM W.neg,nat W.num,nat W.den]) 200 4 5 0 rfl rfl rfl) (.le ?_ ?_ rfl))) ?_
 {cbv;exact⟨lR,lR,lR,lR,zF rfl,trivial⟩};{cbv;exact okA};{cbv;exact okA};{cbv;exact⟨okA,okA,okA,⟨zR rfl rfl,lR,lR,lR,trivial⟩,zC rfl,trivial⟩};clear hM;intro s hs;obtain⟨h1,hL,hI⟩:=hs;generalize s.1=out at *;generalize s.2=i at *;cbv;refine zG (λh5=>?_) (λh5=>?_)
 ·(rw[zB] at h5;have hlt:i<f.ts.length:=by exact om);obtain⟨t,ht⟩:=yB hlt
  (have hmem:=yE ht;rw[yJ ht,b7,UX] at hI;have hI':M=pcr out t.1 (t.2.q*q)++mrg q [] (tq (f.ts.drop (i+1))):=by rw[hI,dJ]);clear hI
  have ca:=hmul t hmem;have cz:=sNz out t.1 (t.2.q*q) (hmsz t hmem) oM;have hpl:=dI out t.1 (t.2.q*q);generalize pcr out t.1 (t.2.q*q)=out' at *;generalize zK (t.2.q*q)=X at *;have idx:∀ {K:List PV->Prop},K (tc t)->IdxOk 4 (λ_=>enc tc f.ts) (λ_=>(i:Int)) K:=λhK=>wB (l:=f.ts) i rfl hlt wP wH (λm' hm'=>by grind);cbv;refine zP 17 (by cbv) ?_;cbv;refine idx ?_;cbv;refine idx ?_;cbv;refine dA ca ?_;cbv;refine kW (λ_=>200) (Wk.sel _ [2,3,4,5,6,20,35] [2,3,4,5,200] rfl) cz ?_;cbv;refine⟨zE om om,(out',i+1),⟨om,om,hI'⟩,om,.le ?_ ?_ rfl⟩;{cbv;exact⟨lR,lR,lR,lR,zF om,trivial⟩};{cbv;exact⟨okA,okA,okA,okA,zC rfl,trivial⟩}
 ·(have hi:i=f.ts.length:=by rw[zB] at h5;exact om);rw[hi,vE] at hI
  (have hM':M=out:=by rw[hI,show tq []=[] from rfl,mrg,vM]);clear hI
  cbv;subst hM';refine bW _ (.trans (.le (ps':=⟨[(4,.ptr 4 0)],[(4,.box [zT 200 4 M.length,zM W.neg,nat W.num,nat W.den]),(200,zW 4 (enc tc (tR M)))]⟩) ?_ ?_ rfl) (.frz 200 rfl rfl ?_ ?_)) rfl ?_;{cbv;exact okA};{cbv;exact⟨okA,zC rfl,trivial⟩};{exact⟨trivial,trivial⟩};{cbv;exact⟨⟨z6 (by simp[zB,vR]),trivial⟩,trivial⟩};{cbv;exact⟨zU (yU (by simp[zB,vR])),lR,lR,lR,trivial⟩}
def DT (l:List (Int×Rat))(fc:R)(g:A)(hl:Cn l)(hg:Cn (tq g.ts))(hfl:Tfit (2^28) l)(hfc:fc.sz (2^31))(hgs:g.sz (2^28))(hlen:l.length+g.ts.length<2^37):zH 148 [av ⟨tR l,fc⟩,av g] (fv (F.add ⟨l,fc.q⟩ g.f)):=by
 refine sF Tryz.f148 ?_;have ca:=s44 fc g.c hfc (hgs.c.mono (by decide));have hgz:=hgs.t.sz;have e:fv (F.add ⟨l,fc.q⟩ g.f)=.agg [tsv (tR (plusAll l (tq g.ts))),zM ((zK (fc.q+g.c.q)).neg),nat (zK (fc.q+g.c.q)).num,nat (zK (fc.q+g.c.q)).den]:=by show av ⟨tR (mrg 1 l (tq g.ts)),zK (fc.q+g.c.q*1)⟩=_;rw[Rat.mul_one,Ki hl hg]
 rw[e];clear e;have hfit:∀ i,Tfit (2^30) (plusAll l (tq (g.ts.take i))):=λi=>by
  (have hg':Cn (tq (g.ts.take i)):=by have:=hg.take i;grind [tq,List.map_take]);refine⟨?_,λt ht=>(Kj (m:=2^28) hl hg' hfl.fit (λt ht=>?_) (by decide) (by decide) t ht).mono (by decide)⟩
  {grind [Yc,Dr]};{unfold tq at ht;obtain⟨u,hu,rfl⟩:=y9.1 ht;exact ((hgz u (nC hu)).fits (by decide):Fits (2^28) _)}
 have hlenP:∀ i,(plusAll l (tq (g.ts.take i))).length<2^38:=λi=>(hfit i).len;have hplus:∀ (i:Nat) (t:Int×R),g.ts[i]?=some t->zH 193 [av ⟨tR (plusAll l (tq (g.ts.take i))),zK (fc.q+g.c.q)⟩,iV t.1,rv t.2] (av ⟨tR (plusAll l (tq (g.ts.take (i+1)))),zK (fc.q+g.c.q)⟩):=λi t ht=>by
  have:=ME (plusAll l (tq (g.ts.take i))) (zK (fc.q+g.c.q)) t.1 t.2 (hfit i) ((hgz t (yE ht)).mono (by decide));have e:wE t.1 t.2.q false (plusAll l (tq (g.ts.take i)))=plusAll l (tq (g.ts.take (i+1))):=by
   (have:tq (g.ts.take (i+1))=tq (g.ts.take i)++[(t.1,t.2.q)]:=by grind [tq,List.take_add_one]);rw[this,UM]
  simp_all
 generalize zK (fc.q+g.c.q)=W at *;obtain⟨P,hP⟩:∃ P:Nat->List (Int×Rat),∀ i,P i=plusAll l (tq (g.ts.take i)):=⟨_,λ_=>rfl⟩;have hplus':∀ (i:Nat) (t:Int×R),g.ts[i]?=some t->zH 193 [av ⟨tR (P i),W⟩,iV t.1,rv t.2] (av ⟨tR (P (i+1)),W⟩):=λi t ht=>by simp_all
 have hP0:P 0=l:=hP 0;have hPe:plusAll l (tq g.ts)=P g.ts.length:=by grind
 rw[hPe];have hlP:(P g.ts.length).length<2^38:=by grind
 have hgl:=hgs.t.len;clear hplus hPe hfit hP hlenP hgs hfc hfl hgz hg hl;cbv;refine dR 9 (by cbv) (by cbv) ?_;cbv;refine dA ca ?_;cbv;refine zY (σ:=Nat) (λi=>⟨[(3,.ptr 3 0),(4,.ptr 4 0),(5,.ptr 5 0),(6,iV i)],
   [(3,.box [tsv g.ts,zM g.c.neg,nat g.c.num,nat g.c.den]),(4,.box [.nil,.ff,.nil,.nil]),(5,.box [tsv (tR (P i)),zM W.neg,nat W.num,nat W.den])]⟩)
  (λi=>i<=g.ts.length) (λi=>g.ts.length-i) 0 oM (.le ?_ ?_ rfl) ?_
 {cbv;exact okA};{cbv;exact⟨okA,okA,⟨zU (by rw[hP0]),lR,lR,lR,trivial⟩,trivial⟩};clear hP0;intro i h1;cbv;refine zG (λh5=>?_) (λh5=>?_)
 ·(rw[zB] at h5;have hlt:i<g.ts.length:=by exact om);obtain⟨t,ht⟩:=yB hlt
  have cp:=hplus' i t ht;have idx:∀ {K:List PV->Prop},K (tc t)->IdxOk 4 (λ_=>enc tc g.ts) (λ_=>(i:Int)) K:=λhK=>wB (l:=g.ts) i rfl hlt wP wH (λm' hm'=>by grind);generalize P i=p0 at *;generalize hp1:P (i+1)=p1 at *;cbv;refine zP 14 (by cbv) ?_;cbv;refine idx ?_;cbv;refine idx ?_;cbv;refine dA cp ?_;cbv;refine⟨zE om om,i+1,om,om,.le ?_ ?_ rfl⟩;{cbv;exact⟨lR,lR,lR,zF om,trivial⟩};{cbv;exact⟨okA,okA,⟨zU (by rw[hp1]),lR,lR,lR,trivial⟩,trivial⟩}
 ·(have hi:i=g.ts.length:=by rw[zB] at h5;exact om);subst hi
  clear hplus';generalize P g.ts.length=M at *;cbv;refine zP 7 (by cbv) ?_;cbv;refine⟨wD wH _,zV (by simp only[zB,vR];exact om) (by simp only[zB,vR];exact om),?_⟩;cbv;exact rA
theorem Cn.scale {l:List (Int×Rat)}(h:Cn l)(c:Rat):Cn (Go.Proofs.YtboocdbmnfjomaaGreat.mrg c [] l):=Cn.mrg Cn.nil h
def AM {f g:F}(hf:Cn f.ts)(hg:Cn g.ts):f.sub g=f.add (g.scale (-1)):=by refine F.ext' ?_ ?_;{refine Cn.ext (hf.mrg hg) (hf.mrg (hg.scale (-1))) λv=>?_;show co (mrg (-1) f.ts g.ts) v=co (mrg 1 f.ts (mrg (-1) [] g.ts)) v;grind [m6,co]};{show f.c+g.c * -1=f.c+(0+g.c * -1)*1;grind}
def JT (l:List (Int×Rat))(fc:R)(g:A)(hl:Cn l)(hg:Cn (tq g.ts))(hfl:Tfit (2^28) l)(hfc:fc.sz (2^31))(hgs:g.sz (2^26))(hlen:l.length+g.ts.length<2^37):zH 90 [av ⟨tR l,fc⟩,av g] (fv (F.sub ⟨l,fc.q⟩ g.f)):=by refine sF Tryz.f90 ?_;have c1:=s32 (-1) (by decide) (by decide);have c2:=eS g (zK ((-1:Int):Rat)) (hgs.mono (by decide)) ((YF (-1) (by decide) (by decide)).mono (by decide));rw[yD,show g.f.scale ((-1:Int):Rat)=g.f.scale (-1) from rfl] at c2;have fs:(g.f.scale (-1)).fit (2^28):=(Zq (hgs.fit (by decide)) uZ (by decide)).mono (by decide);have ls:=VB g.f (-1);have lg:g.f.ts.length=g.ts.length:=Dr _;have e1:tq (fA (g.f.scale (-1))).ts=(g.f.scale (-1)).ts:=Vu _;have c3:=DT l fc (fA (g.f.scale (-1))) hl (by rw[e1];exact hg.scale (-1)) hfl hfc fs.fA (by show l.length+(tR (g.f.scale (-1)).ts).length<_;grind [vR]);rw[dO,<-AM (f:=⟨l,fc.q⟩) hl hg] at c3;dsimp only [fv] at c2 c3 ⊢;generalize fA (F.sub ⟨l,fc.q⟩ g.f)=W at *;generalize fA (g.f.scale (-1))=V at *;generalize zK ((-1:Int):Rat)=o at *;cbv;refine zP 5 (by cbv) ?_;cbv;refine dA c1 ?_;cbv;refine dA c2 ?_;cbv;refine dA c3 ?_;cbv;exact rA
end Go.Proofs.YtboocdbmnfjomaaGreat
