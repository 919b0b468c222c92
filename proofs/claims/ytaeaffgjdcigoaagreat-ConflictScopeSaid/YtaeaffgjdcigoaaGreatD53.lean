/- A part of the proof: KuB. -/
import Derived.Test.YtaeaffgjdcigoaaGreatD51
import Derived.Test.YtaeaffgjdcigoaaGreatD46
import Derived.Test.YtaeaffgjdcigoaaGreatD40
set_option linter.all false
namespace Go.Proofs.YtaeaffgjdcigoaaGreat
open Go
set_option maxRecDepth 100000
set_option maxHeartbeats 8000000
def Jr {M:List Bool}{P:Lem->Prop}(hP:∀ (m:Lem) t,P m->P ⟨m.u,m.up,m.v,m.pf.map (rnM t)⟩):∀ (r:List Lem) (i:Nat) (acc:List Lem) (to:List Int),(∀ m,m∈r->P m)->(∀ m,m∈acc->P m)->(∀ m,m∈(rgo M r i acc to).1->P m)/\(rgo M r i acc to).1.length<=acc.length+r.length
 |[],i,acc,to,_,ha=>⟨ha,yC _⟩| m::r,i,acc,to,hr,ha=>by
  unfold rgo;have h1:=hP m to (hr m wB);split
  ·obtain⟨g1,g2⟩:=Jr hP r (i+1) (acc++[⟨m.u,m.up,m.v,m.pf.map (rnM to)⟩]) (to.set i (acc.length+1)) (λx hx=>hr x (x9 _ hx)) (λx hx=>by
    rcases qH.1 hx with g|g;{exact ha x g}
    ·rw[jA.1 g];exact h1)
   exact⟨g1,by simp only[rB,cX,tM] at *;omega⟩
  {obtain⟨g1,g2⟩:=Jr hP r (i+1) acc to (λx hx=>hr x (x9 _ hx)) ha;exact⟨g1,by simp only[cX] at *;omega⟩}
def Aq {l c:List y5}(h:mkR l=some c):c.length<=l.length:=by
 have key:∀ (l a:List y5),(l.foldl fX a).length<=a.length+l.length:=by
  intro l;induction l with
  |nil=>intro a;exact yC _| cons x r ih =>
   (intro a;rw[Fq];have:=ih (fX a x);have h2:(fX a x).length<=a.length+1:=by unfold fX;split <;> simp[XG]);simp only[cX];omega
 unfold mkR at h;split at h;{cases h;have:=key l [];simpa using this};{cases h}
def GW {s:Scp}{l:List Mult}(h:Lft s l)(em:Bool):(aU s em l).1.cl.length<=1000/\(aU s em l).1.lems.length<2^38/\∀ m,m∈(aU s em l).1.lems->m.v.sz (2^32)/\Msz (2^32) m.pf:=by
 have h0:R00n.cl.length<=1000/\R00n.lems.length<2^38/\∀ m,m∈R00n.lems->m.v.sz (2^32)/\Msz (2^32) m.pf:=⟨by decide,by decide,λm hm=>absurd hm (by simp[R00n])⟩;have z:=h.w.sz16 (by decide) (by decide);obtain⟨m1,m2⟩:=h.marks;have hp:=h.w.pl;have hl:=h.w.len;unfold aU;split;{exact h0}
 ·split;{exact h0}
  ·split;{exact h0}
   ·rename_i ls hls;split;{exact h0}
    ·(rename_i c hc;have e1:ls.length=(w9 (s.marks l).1).length:=by have:=congrArg List.length (UI hls).2;grind);have e2:=Aq hc;have e3:=nQ (s.marks l).1 (s.marks l).1.length;obtain⟨g1,g2⟩:=Jr (M:=(s.marks l).2) (P:=λm=>m.v.sz (2^32)/\Msz (2^32) m.pf) (λm t hm=>⟨hm.1,⟨by show (m.pf.map _).length<_;rw[wH];exact hm.2.len,λy hy=>by obtain⟨x,hx,rfl⟩:=xB.1 hy;exact hm.2.sz x hx⟩⟩) s.lems 0 [] (List.replicate s.lems.length 0) (λm hm=>⟨(z.lems.sz m hm).mono (by decide),(z.lems.pf m hm).mono (by decide)⟩) (λm hm=>absurd hm (by simp))
     exact⟨by show c.length<=1000;unfold w9 at e1;omega,by simp only[tM] at g2;show (rgo _ _ _ _ _).1.length<_;omega,g1⟩
def Ri {L:List Lem}(h:(L.all smL&&decide (L.length<=20))=true):L.length<2^38/\∀ m,m∈L->m.v.sz (2^32)/\Msz (2^32) m.pf:=by simp only[yZ,decide_eq_true_eq,s8] at h;refine⟨by omega,λm hm=>?_⟩;have:=h.1 m hm;unfold smL at this;simp only[yZ,decide_eq_true_eq,s8] at this;obtain⟨a1,a2,a3,a4⟩:=this;refine⟨⟨by omega,by omega⟩,⟨by omega,λy hy=>?_⟩⟩;have:=a4 y hy;unfold smM at this;simp only[yZ,decide_eq_true_eq] at this;exact⟨by omega,by omega⟩
def Ru (raw:List UInt8)(C:List y5)(L:List Lem)(h1:raw.length<=9223372036854775807)(h2:C.length<=9223372036854775807)(h3:L.length<=9223372036854775807):zD 8 [u8v raw,qR C,llv L] (bV true):=by
 refine sF Tryz.f8 ?_;have ca:=Sb;have csm:=Nb L h3;have hsm:=Ri (L:=L);have ccl:raw.length<2^38->zD 11 [u8v raw] (.tup [sv (clo raw),mlv (mR (X3 raw))]):=λh=>TH raw h;have ft:=Gd raw;have clr:=Tv (clo raw) false (mR (X3 raw)) (ft.lnr);obtain⟨z1,z2,z3⟩:=GW ft false;have hqz:=ft.w.qz;have hqv:=ft.w.v;have cvr:=lE (clo raw).q (hqz.mono (by decide));rw[hqv] at cvr;have csc:=λ(R:Rsn) (h:R.cl.length<=1000)=>Tl (clo raw).q R oM;have csr:=λ(R:Rsn) (h:R.cl.length<=1000)=>Tk (clo raw).q R oM;have csp:=λ(R:Rsn) (h:R.cl.length<=1000)=>Na (R.cl.map dY) (by rw[wH];omega) (λm hm=>by obtain⟨x,_,rfl⟩:=xB.1 hm;exact⟨yY _,yY _⟩);have csl:=λ(R:Rsn) (h:R.lems.length<2^38) (h':∀ m,m∈R.lems->m.v.sz (2^32)/\Msz (2^32) m.pf)=>Tg R.lems h h';have hsc:∀ R,lV (clo raw).q R=⟨(clo raw).q,R.cl.map dY,R.lems⟩:=λ_=>rfl;simp only[hsc] at csc csr;clear ft hqz hqv hsc;generalize aU (clo raw) false (mR (X3 raw))=RE at *;generalize clo raw=S at *;generalize mR (X3 raw)=CL at *;generalize (L.all smL&&decide (L.length<=20))=sb at *;obtain⟨R,E⟩:=RE;obtain⟨⟨⟨n,us,os⟩,⟨lo,hi',rows⟩,⟨ts,c⟩⟩,path,LS⟩:=S;dsimp only [sv] at *;cbv;refine cA ca ?_;cbv;refine fL rfl ?_;cbv;refine zO (λe1=>?_) (λe1=>?_);{cbv;exact rA};have ccl':=ccl (by rw[zA] at e1;exact om);clear ccl;cbv;refine zO (λe2=>?_) (λe2=>?_);{cbv;exact rA};have hC:C.length<=20:=by rw[zA] at e2;exact om
 cbv;refine cA csm ?_;cbv;refine zN (λe3=>?_) (λe3=>?_)
 rotate_left
 {cbv;exact rA};obtain⟨q1,q2⟩:=hsm e3;clear hsm csm;cbv;refine cA ccl' ?_;cbv;refine cA clr ?_;clear ccl' clr ca;cbv;refine zO (λe4=>?_) (λe4=>?_);{cbv;refine zE (λe5=>?_) (λe5=>?_);{have k1:=csc R z1;have k2:=csr R z1;have k3:=csp R z1;have k4:=csl R z2 z3;dsimp only at k1 k2 k3 k4;clear csc csr csp csl;cbv;refine uL 10 (by cbv) (by cbv) ?_;cbv;refine dA k1 ?_;cbv;refine dA k2 ?_;cbv;refine cA cvr ?_;cbv;refine sG rfl ?_;cbv;refine wP rfl ?_;cbv;refine cA k3 ?_;cbv;refine sG rfl ?_;cbv;refine cA k4 ?_;cbv;exact rA};{have k1:=csc ⟨C,L,false,CL⟩ (show C.length<=1000 by omega);have k2:=csr ⟨C,L,false,CL⟩ (show C.length<=1000 by omega);have k3:=csp ⟨C,L,false,CL⟩ (show C.length<=1000 by omega);have k4:=csl ⟨C,L,false,CL⟩ q1 q2;dsimp only at k1 k2 k3 k4;clear csc csr csp csl;cbv;refine uL 10 (by cbv) (by cbv) ?_;cbv;refine dA k1 ?_;cbv;refine dA k2 ?_;cbv;refine cA cvr ?_;cbv;refine sG rfl ?_;cbv;refine wP rfl ?_;cbv;refine cA k3 ?_;cbv;refine sG rfl ?_;cbv;refine cA k4 ?_;cbv;exact rA}};{have k1:=csc ⟨C,L,false,CL⟩ (show C.length<=1000 by omega);have k2:=csr ⟨C,L,false,CL⟩ (show C.length<=1000 by omega);have k3:=csp ⟨C,L,false,CL⟩ (show C.length<=1000 by omega);have k4:=csl ⟨C,L,false,CL⟩ q1 q2;dsimp only at k1 k2 k3 k4;clear csc csr csp csl;cbv;refine uL 10 (by cbv) (by cbv) ?_;cbv;refine dA k1 ?_;cbv;refine dA k2 ?_;cbv;refine cA cvr ?_;cbv;refine sG rfl ?_;cbv;refine wP rfl ?_;cbv;refine cA k3 ?_;cbv;refine sG rfl ?_;cbv;refine cA k4 ?_;cbv;exact rA}
end Go.Proofs.YtaeaffgjdcigoaaGreat
