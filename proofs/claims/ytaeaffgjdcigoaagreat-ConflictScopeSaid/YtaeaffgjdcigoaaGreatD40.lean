/- A part of the proof: KpO, KpP. -/
import Derived.Test.YtaeaffgjdcigoaaGreatD48
import Derived.Test.YtaeaffgjdcigoaaGreatD44
set_option linter.all false
namespace Go.Proofs.YtaeaffgjdcigoaaGreat
open Go
set_option maxRecDepth 100000
theorem Ha {a b:Int}(hab:a<=b):∀ {p:Int} {l:List (Int×R)},vT a p l=true->vT b p l=true
 |_,[],_=>rfl| p,t::r,h=>by unfold vT at h ⊢;simp only[yZ,decide_eq_true_eq] at h ⊢;obtain⟨⟨⟨⟨⟨h1,h2⟩,h3⟩,h4⟩,h5⟩,h6⟩:=h;exact⟨⟨⟨⟨⟨h1,by omega⟩,h3⟩,h4⟩,h5⟩,Ha hab h6⟩
theorem A.valid_mono {f:A}{a b:Int}(h:f.valid a=true)(hab:a<=b):f.valid b=true:=by unfold A.valid at h ⊢;simp only[yZ] at h ⊢;grind [Ha]
theorem Cw.sz16 {s:Scp}{p c:Nat}(h:Cw s p c)(hp:p<=1000)(hc:c<=1000):s.sz (2^16):=by have hpl:=h.pl;have hlen:=h.len;refine⟨h.qz.mono (by decide),⟨by omega,λd hd=>(h.dp d hd).mono (by decide)⟩,⟨by omega,λm hm=>?_,λm hm=>(h.l m hm).2.1⟩⟩;obtain⟨q,hq⟩:=(h.l m hm).1;have hf:=h.lb m hm;rw[hq,z9] at hf;rw[hq];exact zU (hf.mono (by decide))
def Hf {s:Scp}(h:s.sz (2^16)){l:List Mult}(hl:Msz (2^16) l)(hn:l.length<=20):SumOk s l where
 fm:=λm hm f hf=>(Cf h (by decide) hf).mono (by decide) (yC _)
 c:=hl.mono (by decide)
 pre:=λi acc hacc=>by
  (have hi:(l.take i).length<=20:=by grind);exact (V4 h (by decide) (λm hm=>(hl.sz m (bB hm)).mono (by decide)) zero_fl hacc).mono oM oM
theorem Scp.sz.pre {s:Scp}{k:Nat}(h:s.sz k)(i:Nat):(s.pre i).sz k :=
 ⟨h.q,h.path,⟨by have:=h.lems.len;show (s.lems.take i).length<2^38;grind,λm hm=>h.lems.sz m (bB hm),λm hm=>h.lems.pf m (bB hm)⟩⟩
structure Lft (s:Scp) (l:List Mult):Prop where
 w:Cw s 8 32
 n:l.length<=20
 z:Msz (2^16) l
 r:∀ m,m∈l->RoIn s m.row
theorem Lft.marks {s:Scp}{l:List Mult}(h:Lft s l):(s.marks l).1.length=s.path.length/\(s.marks l).2.length=s.lems.length:=by obtain⟨m1,m2,_,_⟩:=Xv h.w.backs l;omega
structure Lfit (s:Scp) (l:List Mult):Prop extends Lft s l where
 u:∀ ls,lgo s (w9 (s.marks l).1) []=some ls->mkR ls=mkP ls/\Xj (cT ls).reverse
theorem Lft.fit {s:Scp}{l:List Mult}(h:Lft s l)(hp:s.path.Pairwise λa b=>uk a->uk b->a.i≠b.i):Lfit s l:=⟨h,λls hls=>Ap (GS hp h.marks.1 hls)⟩
def D9 {l:List Bool}{k:Int}(h:k∈w9 l):0<=k/\k<l.length:=by obtain⟨j,rfl,g,_⟩:=pJ.1 h;omega
theorem Lfit.lrn {s:Scp}{l:List Mult}(h:Lfit s l):LrnOk s l:=by
 obtain⟨u1,u2,u3,u4,u5⟩:=h.w.usz (by decide) (by decide);obtain⟨m1,m2⟩:=h.marks;have hl:=h.w.len;have hp:=h.w.pl;have b1:=nQ (s.marks l).1 (s.marks l).1.length;have b2:=nQ (s.marks l).2 (s.marks l).2.length;refine⟨u4,λm hm=>⟨by have:=(h.w.l m hm).2.2;omega,(h.w.lpf (by decide)).2 m hm⟩,h.z.mono (by decide),by have:=h.n;omega,λm hm=>(h.r m hm).rsm oM,h.w.used (by decide) (by decide) h.r (by have:=h.n;omega),λk hk=>?_,λk hk=>?_,?_,?_,λls hls=>(h.u ls hls).2⟩;{have:=D9 hk;omega};{have:=D9 hk;omega}
 all_goals grind [w9]
theorem Lft.lnr {s:Scp}{l:List Mult}(h:Lft s l):LnrOk s l:=by obtain⟨u1,u2,u3,u4,u5⟩:=h.w.usz (by decide) (by decide);obtain⟨m1,m2⟩:=h.marks;have hl:=h.w.len;have hp:=h.w.pl;have z:=h.w.sz16 (by decide) (by decide);have hv:=h.w.v;unfold Qry.valid at hv;simp only[yZ] at hv;have hn:=Qry.vok_of h.w.v;refine⟨u4,λi m hm=>Hf (z.pre i) (h.w.l m (z8 hm)).2.1 (h.w.l m (z8 hm)).2.2,?_,?_,Hf z h.z h.n,u5,by have:=h.n;omega,λm hm=>by have:=(h.w.l m hm).2.2;omega,by omega,by omega,m1,m2⟩;{have h1:=hn.n1;have h2:=hn.n2;have h3:=hn.ul;have:=mW hv.2 (by grind [Grp.vars]);grind [Grp.vars]};{have h1:=hn.n1;have h2:=hn.n2;have h3:=hn.ul;grind [A.valid_mono,Grp.vars]}
def HN {l:List Mult}{k:Nat}(h:Msz k l)(I:List Int):Msz k (l.map (rnP I)):=⟨by rw[wH];exact h.len,λm hm=>by obtain⟨y,hy,rfl⟩:=xB.1 hm;exact h.sz y hy⟩
theorem Lfit.res {s:Scp}{l:List Mult}(h:Lfit s l)(em:Bool):(dH s em l).1.cl.length<2^38/\(dH s em l).1.lems.length<2^38/\(∀ m,m∈(dH s em l).1.lems->m.v.sz (2^32)/\Msz (2^32) m.pf)/\Msz (2^32) (dH s em l).1.pf:=by
 have h0:(R00n.cl.length<2^38/\R00n.lems.length<2^38/\(∀ m,m∈R00n.lems->m.v.sz (2^32)/\Msz (2^32) m.pf)/\Msz (2^32) R00n.pf):=⟨by decide,by decide,λm hm=>absurd hm (by simp[R00n]),⟨by decide,λm hm=>absurd hm (by simp[R00n])⟩⟩;have f:=h.lrn;have z:=h.w.sz16 (by decide) (by decide);unfold dH;split;{exact h0}
 ·split;{exact h0}
  ·split;{exact h0}
   ·rename_i ls hls;split;{exact h0}
    ·rename_i c hc;refine⟨?_,?_,λm hm=>?_,HN (h.z.mono (by decide)) _⟩
     ·(have e1:ls.length=(w9 (s.marks l).1).length:=by have:=congrArg List.length (UI hls).2;grind);have e2:c.length=ls.length:=by unfold mkP at hc;split at hc;{cases hc;rw[List.length_reverse,XD]};grind
      have:=f.dl;grind
     {have:=f.ml;grind}
     ·(obtain⟨y,hy,rfl⟩:=xB.1 hm;obtain⟨k,hk,rfl⟩:=xB.1 hy;obtain⟨k0,k1⟩:=f.mm k hk;obtain⟨x,hx⟩:=zQ (l:=s.lems) (i:=k.toNat) oM;have e:s.lemA k=x:=by grind [Scp.lemA]);have hm':=z8 hx
      rw[e];exact⟨(z.lems.sz x hm').mono (by decide),HN ((z.lems.pf x hm').mono (by decide)) _⟩
theorem Lfit.pair {s:Scp}{l:List Mult}(h:Lfit s l)(em:Bool):∃ (R:Rsn) (E:Int),zD 20 [sv s,bV em,mlv l] (.tup [rsv R,iV E]) /\ zD 21 [sv s,bV em,mlv l] (.tup [rsv R,iV E]) /\ zD 22 [rsv R,rsv R] (bV true):=by obtain⟨m1,m2⟩:=h.marks;obtain⟨r1,r2,r3,r4⟩:=h.res em;have e:=JM (em:=em) m2 h.w.backs (λm hm=>⟨(h.r m hm).lo.2,(h.r m hm).hi.2⟩) (λls hls=>(h.u ls hls).1);have c:=Tv s em l h.lnr;rw[e] at c;exact⟨_,_,Tu s em l h.lrn,c,MP _ r1 r2 r3 r4⟩
theorem Cw.mono {s:Scp}{p c p':Nat}(h:Cw s p c)(hp:p<=p'):Cw s p' c:=⟨h.dp,h.v,h.qz,vI h.pl hp,h.len,h.l,h.lb,h.r⟩
def Gd (raw:List UInt8):Lft (clo raw) (mR (X3 raw)):=by obtain⟨cv,dr⟩:=Ge raw;refine⟨cv.toCw.mono (by decide),by rw[kT];exact dr.len,⟨by rw[kT];have:=dr.len;show (oL (iJ raw)).length<2^38;omega,λm hm=>?_⟩,λm hm=>?_⟩;{obtain⟨t,ht,rfl⟩:=xB.1 hm;exact zU (dr.m t ht)};{obtain⟨t,ht,rfl⟩:=xB.1 hm;exact (dr.r t ht).mono (yC _) (yC _)}
theorem Lft.take {s:Scp}{l:List Mult}(h:Lft s l)(k:Nat):Lft s (l.take k) :=
 ⟨h.w,by have:=h.n;grind,⟨by have:=h.z.len;grind,λm hm=>h.z.sz m (bB hm)⟩,λm hm=>h.r m (bB hm)⟩
def lL (m:Lem):Lem:=⟨m.u,m.up,zI (m.v.q+1),m.pf⟩
def Scp.bump (s:Scp) (k:Nat):Scp:=⟨s.q,s.path,s.lems.modify k lL⟩
theorem Lft.bump {s:Scp}{l:List Mult}(h:Lft s l)(hf:∀ m,m∈s.lems->Fits (2^13-64) m.v.q)(k:Nat):Lft (s.bump k) l:=by
 have hm':∀ m,m∈(s.bump k).lems->m∈s.lems\/∃ y,y∈s.lems/\m=lL y:=λm hm=>by have hm:m∈s.lems.modify k lL:=hm;obtain⟨i,hi⟩:=oB hm;grind
 have hlen:(s.bump k).lems.length=s.lems.length:=List.length_modify ..;refine⟨⟨h.w.dp,h.w.v,h.w.qz,h.w.pl,by rw[hlen];exact h.w.len,λm hm=>?_,λm hm=>?_,λi m hm y hy=>?_⟩,h.n,h.z,λm hm=>(h.r m hm).mono (yC _) oM⟩;{rcases hm' m hm with g|⟨y,hy,rfl⟩;{exact h.w.l m g};{exact⟨⟨_,rfl⟩,(h.w.l y hy).2⟩}};{rcases hm' m hm with g|⟨y,hy,rfl⟩;{exact h.w.lb m g};{show Fits (2^13) (zI (y.v.q+1)).q;rw[z9];exact (uX (hf y hy) fits_one).mono (by decide)}}
 ·have hm:(s.lems.modify k lL)[i]?=some m:=hm;rw[List.getElem?_modify] at hm;cases hx:s.lems[i]? with
  |none=>grind| some z =>
   (rw[hx] at hm;have hm:some (if k=i then lL z else z)=some m:=hm;have hpf:m.pf=z.pf:=by by_cases e:k=i;{rw[if_pos e] at hm;cases hm;rfl};grind);rw[hpf] at hy;exact (h.w.r i z hx y hy).mono (yC _) (by grind)
def JG {L:List Lem}{k:Nat}{m:Lem}(hm:L[k]?=some m):L.modify k lL=L.set k (lL m):=by refine List.ext_getElem? λi=>?_;grind
end Go.Proofs.YtaeaffgjdcigoaaGreat
