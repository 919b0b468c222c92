/- A part of the proof: KvA. -/
import Derived.Test.YtaeaffgjdcigoaaGreatG48
import Derived.Test.YtaeaffgjdcigoaaGreatG38
import Derived.Test.YtaeaffgjdcigoaaGreatG31
set_option linter.all false
namespace Go.Proofs.YtaeaffgjdcigoaaGreat
open Go
set_option maxRecDepth 100000
set_option maxHeartbeats 8000000
def nB (f:F) (x:Rat):F:=if x<0 then ⟨f.ts,f.c-x⟩ else f
def Bk (f:F)(x:Rat):dS (fA f) x=fA (nB f x):=by unfold dS nB;split;{show (⟨_,zG ((zG f.c).q-x)⟩:A)=_;rw[zV];rfl};{rfl}
def Ho (x:FQry) (G:F) (l:List Rat):Bool:=Gm x.r l&&decide (z3 (G.at (xr (vW x.g.us l)))<0)
def Eh (x:FQry)(G:F)(l:List Rat)(hx:x.small)(hok:x.ok)(hl:InpOk x l){k:Nat}(hG:G.fl k 7)(hk:k<=2^26)(hw:G.wf ((x.g.n+x.g.us.length:Nat):Int)):zD 28 [qv ⟨x.g.g,x.r.g,fA G⟩,rlv (l.map zG)] (bV (Ho x G l)):=by
 refine sF Tryz.f28 ?_;have hv:=hx.valid hok;have hz:=hx.sz;unfold Qry.valid at hv;simp only[yK] at hv;have n2:=hx.g.n2;have u4:=hx.g.us;have cv:=KR x.g l hx.g hv.1.1 (hz.g.mono (by decide)) hok.us hl.len (m:=20) (by decide) (by decide) hl.fit;have cc:=Rk x.r l hx.r hv.1.2 (hz.r.mono (by decide)) hok.rows hl.len hx.g.n2 (m:=20) (by decide) hl.fit;obtain⟨V,Q⟩:=Sm hx.g hok.us hl.len (m:=20) (by decide) (by decide) hl.fit;have hvl:(vW x.g.us l).length=x.g.n+x.g.us.length:=by rw[mS,hl.len]
 have hfit:∀ q,q∈vW x.g.us l->Fits (2^24) q:=λq hq=>Q.fit x.g.us.length q (by rw[Q.v9];exact hq);have hG7:G.fl (2^26) 7:=⟨λt ht=>(hG.t t ht).mono hk,hG.c.mono hk,hG.len⟩;rw[<-hvl] at hw;have ce:=GY G _ hG7 hw hfit (by decide) (by decide) (by decide) (by decide) oM;have ht:=ZB hG7 (VU hw hfit);have cs:=s35 (zG (G.at (xr (vW x.g.us l)))) (xF (zT ht).n (by decide));rw[zV] at cs;have hr:Ho x G l=(Gm x.r l&&decide (z3 (G.at (xr (vW x.g.us l)))<0)):=rfl;have e1:qv ⟨x.g.g,x.r.g,fA G⟩=.agg [iV x.g.n,alv (x.g.us.map fA),alv (x.g.os.map fA),rlv (x.r.bs.map λb=>zG b.1),rlv (x.r.bs.map λb=>zG b.2),alv (x.r.rows.map fA),tsv (fA G).ts,bV ((fA G).c.neg),nat (fA G).c.num,nat (fA G).c.den]:=rfl;have e2:gv x.g.g=.agg [iV x.g.n,alv (x.g.us.map fA),alv (x.g.os.map fA)]:=rfl;have e3:rgv x.r.g=.agg [rlv (x.r.bs.map λb=>zG b.1),rlv (x.r.bs.map λb=>zG b.2),alv (x.r.rows.map fA)]:=rfl;rw[e1];rw[e2] at cv;rw[e3] at cc;generalize Ho x G l=vb at *;generalize Gm x.r l=cb at *;generalize z3 (G.at (xr (vW x.g.us l)))=sg at *;generalize hW:zG (G.at (xr (vW x.g.us l)))=W at *;generalize (vW x.g.us l).map zG=VV at *;generalize l.map zG=LL at *;generalize (x.g.n:Int)=n at *;generalize x.g.us.map fA=us at *;generalize x.g.os.map fA=os at *;generalize (x.r.bs.map λb=>zG b.1)=lo at *;generalize (x.r.bs.map λb=>zG b.2)=hi at *;generalize x.r.rows.map fA=rows at *;generalize fA G=g at *;clear hx hok hl hG hk hw hv hz n2 u4 V Q hvl hfit hG7 ht e1 e2 e3 hW;obtain⟨gt,gc⟩:=g;dsimp only at *;cbv;refine cA cv ?_;cbv;refine vN rfl ?_;cbv;refine cA cc ?_;cbv;refine zP (λe=>?_) (λe=>?_)
 rotate_left
 ·cbv
  (refine rC ?_;cbv)
  exact zK (by rw[hr,e];rfl)
 cbv;refine cA ce ?_;cbv;refine cA cs ?_;cbv
 (refine rC ?_;cbv)
 exact z4 (by rw[hr,e];simp)
def BU (x:FQry) (l:List Rat) (c:yQ):Bool:=if c.2=true then decide (0<=z3 (mK x l c.1)) else decide (z3 (mK x l c.1)<=0)
def DH {x:FQry}{G:F}{l:List Rat}(hx:x.small)(hok:x.ok)(hl:InpOk x l){r:Rsn}(hv:aR ⟨x.g.g,x.r.g,fA G⟩ r=true)(he:r.em=false)(hvio:Ho x G l=true)(hno:∀ c,c∈r.cl->BU x l c=false):False:=by
 unfold aR at hv;simp only[yK] at hv;obtain⟨v1,v2,v3,v4,v5⟩:=hv;unfold Ho at hvio;simp only[yK,decide_eq_true_eq] at hvio;have hm:R7 x (r.cl.map gR) l=true:=by
  (unfold R7;rw[hvio.1,yN];refine gG.2 λd hd=>?_;obtain⟨c,hc,rfl⟩:=xA.1 hd;have hf:(gR c).fits x.q=true:=by unfold Scp.scopeB at v4;simp only[yK,gG] at v4;exact (v4.2.1 _ (List.mem_map_of_mem hc)).2);have hn:=hno c hc;unfold WF;rw[hf,yN];obtain⟨i,b⟩:=c;unfold BU at hn;cases b with
  |false =>
   show (if (1:Int)=3 then _ else if (1:Int)=4 then _ else if (1:Int)=1 then decide (0<=z3 (mK x l i)) else _)=true;rw[if_neg (by decide),if_neg (by decide),if_pos rfl];have:=of_decide_eq_false (show decide (z3 (mK x l i)<=0)=false from hn);exact decide_eq_true oM
  |true =>
   show (if (2:Int)=3 then _ else if (2:Int)=4 then _ else if (2:Int)=1 then _ else decide (z3 (mK x l i)<=0))=true;rw[if_neg (by decide),if_neg (by decide),if_neg (by decide)];have:=of_decide_eq_false (show decide (0<=z3 (mK x l i))=false from hn);exact decide_eq_true oM
 have hP0:=MW (L:=r.lems) hx hok hl hm;have hP:Pt (ZP ⟨x.g.g,x.r.g,fA G⟩ r) (xr (vW x.g.us l)):=⟨hP0.lo,hP0.hi,hP0.rows,hP0.un,hP0.ab,hP0.be,hP0.on,hP0.off⟩;have hL:=KM hP v4;unfold Scp.closes at v5;rw[he,if_neg (by decide)] at v5;have hg:=(o4 hP hL v5).2;have e:((ZP ⟨x.g.g,x.r.g,fA G⟩ r).q.goal).f=G:=qP G;rw[e] at hg;have:=tF.1 hvio.2;grind
def Ks {q:Qry}{r:Rsn}(hv:aR q r=true):∀ c,c∈r.cl->0<=c.1/\c.1<q.g.us.length:=λc hc=>by unfold aR at hv;simp only[yK] at hv;have h:=hv.2.2.2.1;unfold Scp.scopeB at h;simp only[yK,gG] at h;have hf:(gR c).fits q=true:=(h.2.1 _ (List.mem_map_of_mem hc)).2;unfold Dec.fits at hf;rw[if_pos (by unfold gR;dsimp only;split <;> simp)] at hf;exact of_decide_eq_true (Gy.1 hf).1
def DN {s:Scp}{em:Bool}{l:List Mult}(h:(qL s em l).2=0):(qL s em l).1.em=em:=by unfold qL at h ⊢;split at h;{cases h};{rename_i h1;rw[if_neg h1];split at h;{cases h};{rename_i h2;rw[if_neg h2];split at h;{cases h};{split at h;{cases h};{rfl}}}}
def L8 (raw:List UInt8):(clo raw).q=⟨(fdY raw 0).1.g.g,(fdY raw 0).1.r.g,fA (nB (fdY raw 0).1.goal (oVq (tV raw)))⟩:=by have h:=(lW raw).q;show (⟨(jF raw).q.g,(jF raw).q.r,dS (jF raw).q.goal _⟩:Qry)=_;rw[h,<-Bk];rfl
def Mh (raw place:List UInt8)(w:UInt8)(h1:raw.length<=9223372036854775807)(h2:place.length<=9223372036854775807):zD 7 [u8v raw,u8v place,.int .u8 (λ_=>(w.toNat:Int))] (bV true):=by
 refine sF Tryz.f7 ?_;have ca:=PW;have ccl:raw.length<2^38->zD 11 [u8v raw] (.tup [sv (clo raw),mlv (mR (Zy raw))]):=λh=>Lc raw h;have ft:=Y9 raw;have cl:=Mg (clo raw) false (mR (Zy raw)) (ft.fit (AQ raw)).lrn;have hval:=Zi ft.w ft.r (em:=false);have hcl:=((ft.fit (AQ raw)).rok false).cl;have hem:=DN (s:=clo raw) (em:=false) (l:=mR (Zy raw));have hq:=L8 raw;have hx:=aQ raw 0;have hok:=Ap raw 0;have hG:(nB (fdY raw 0).1.goal (oVq (tV raw))).fl (2^14) 7:=by have h7:=hx.goal;have hv:=(Q9 raw).2.v;unfold nB;split;{exact⟨λt ht=>(h7.t t ht).mono (by decide),(vC h7.c hv).mono (by decide),h7.len⟩};{exact h7.mono (by decide) (yD _)}
 have hw:(nB (fdY raw 0).1.goal (oVq (tV raw))).wf (((fdY raw 0).1.g.n+(fdY raw 0).1.g.us.length:Nat):Int):=by have h7:=hok.goal;unfold nB;split;{exact⟨h7.cn,h7.v⟩};{exact h7}
 generalize (fdY raw 0).1=x at *;generalize nB x.goal (oVq (tV raw))=G at *;have hI:InpOk x (nN place 0 x.r.bs):=⟨by rw[WB];exact hx.r.bs,UF hx.r.bf⟩;have cin:=λ(h:place.length<2^38)=>Rj x.r place hx.r (by have:=hx.g.n2;omega) h;generalize nN place 0 x.r.bs=l at *;have cvio:=Eh x G l hx hok hI hG (by decide) hw;have hgv:x.g.g.valid=true:=by have:=hx.valid hok;unfold Qry.valid at this;simp only[yK] at this;exact this.1.1
 have cpre:=Rl x.g l hx.g hgv (hx.sz.g.mono (by decide)) hok.us hI.len (m:=20) (by decide) (by decide) hI.fit;have hlit:(qL (clo raw) false (mR (Zy raw))).2=0->Ho x G l=true->(∀ c,c∈(qL (clo raw) false (mR (Zy raw))).1.cl->BU x l c=false)->False:=λh0 hv hno=>DH hx hok hI (by rw[<-hq];exact hval h0) (hem h0) hv hno;have hun:(qL (clo raw) false (mR (Zy raw))).2=0->∀ c,c∈(qL (clo raw) false (mR (Zy raw))).1.cl->0<=c.1/\c.1<x.g.us.length:=λh0 c hc=>by
  (have:=Ks (hval h0) c hc;rw[hq] at this;have e:(⟨x.g.g,x.r.g,fA G⟩:Qry).g.us.length=x.g.us.length:=by show (x.g.us.map fA).length=_;rw[y8]);omega
 have hpre:∀ i:Int,0<=i->i<x.g.us.length->((x.g.us.map λf=>f.at (xr (vW x.g.us l))).map zG)[i.toNat]?=some (zG (mK x l i))/\zD 30 [rv (zG (mK x l i))] (iV (z3 (mK x l i))):=λi h0 hi=>by
  (obtain⟨f,hf⟩:=zO (l:=x.g.us) (i:=i.toNat) oM;have e:mK x l i=f.at (xr (vW x.g.us l)):=by unfold mK;rw[hf];rfl);obtain⟨V,Q⟩:=Sm hx.g hok.us hI.len (m:=20) (by decide) (by decide) hI.fit
  (have hvl:(vW x.g.us l).length=x.g.n+x.g.us.length:=by rw[mS,hI.len]);have hfit:∀ q,q∈vW x.g.us l->Fits (2^24) q:=λq hq=>Q.fit x.g.us.length q (by rw[Q.v9];exact hq)
  have hfw:f.wf ((vW x.g.us l).length:Int):=(hok.us _ f hf).mono (by rw[hvl];omega);have ht:=ZB (hx.g.uf f (zX hf)) (VU hfw hfit);have cs:=s35 (zG (f.at (xr (vW x.g.us l)))) (xF (zT ht).n (by decide));rw[zV] at cs;rw[e];exact⟨by rw[uY,uY,hf];rfl,cs⟩
 have hPl:((x.g.us.map λf=>f.at (xr (vW x.g.us l))).map zG).length=x.g.us.length:=by rw[y8,y8]
 have hu4:=hx.g.us;have hlit2:∀ i b,BU x l (i,b)=if b=true then decide (0<=z3 (mK x l i)) else decide (z3 (mK x l i)<=0):=λ_ _=>rfl
 clear ft hval hem hG hw hI hgv hok hx;generalize ((x.g.us.map λf=>f.at (xr (vW x.g.us l))).map zG)=PRE at *;generalize mK x l=pv at *;generalize BU x l=lh at *;generalize Ho x G l=vb at *;generalize x.g.us.length=un at *;generalize l.map zG=LL at *;generalize qL (clo raw) false (mR (Zy raw))=RE at *;generalize clo raw=S at *;generalize mR (Zy raw)=CL at *;generalize fA G=go at *;generalize x.g.g=gg at *;generalize x.r.g=rg at *;obtain⟨q,path,L⟩:=S;dsimp only at hq;subst hq;obtain⟨R,E⟩:=RE;obtain⟨n,us,os⟩:=gg;obtain⟨lo,hi',rows⟩:=rg;obtain⟨ts,c⟩:=go;dsimp only [sv] at *;cbv;refine cA ca ?_;cbv;refine dY rfl ?_;cbv;refine zQ (λe1=>?_) (λe1=>?_);{cbv;exact rA};have ccl':=ccl (by rw[zA] at e1;exact om);clear ccl;cbv;refine zE (λe2=>?_) (λe2=>?_);{cbv;exact rA};have cin':=cin (by rw[zA] at e2;exact om);clear cin;cbv;refine cA ccl' ?_;cbv;refine cA cl ?_;cbv;refine cA cin' ?_;clear ccl' cl cin' ca;cbv;refine zQ (λe4=>?_) (λe4=>?_)
 rotate_left
 {cbv;exact rA};replace hlit:=hlit e4;replace hun:=hun e4;cbv;refine cA cvio ?_;cbv;refine zP (λe5=>?_) (λe5=>?_)
 rotate_left
 {cbv;exact rA};replace hlit:=hlit e5;cbv;refine cA cpre ?_;cbv;refine zW (σ:=Nat) (λi=>⟨[(12,rlv PRE),(61,jD R.cl),(62,iV R.cl.length),(63,iV i)],[]⟩) (λi=>i<=R.cl.length/\∀ (j:Nat) c,j<i->R.cl[j]?=some c->lh c=false) (λi=>R.cl.length-i) 0 ⟨yU _,λj c h=>absurd h (Nat.not_lt_zero _)⟩ (.le (by cbv;repeat' first|exact trivial|exact lR|exact zB (by (try dsimp only [zY] at *);rw[zA])|apply And.intro) okZ rfl) ?_;clear cvio cpre;intro i hi;obtain⟨hi,hno⟩:=hi;cbv;refine zE (λh=>?_) (λh=>?_)
 ·(have hlt:i<R.cl.length:=by exact om);obtain⟨⟨ci,cb⟩,hc⟩:=zO hlt
  obtain⟨u1,u2⟩:=hun _ (zX hc);obtain⟨hp,cs⟩:=hpre ci u1 u2;have hlc:=hlit2 ci;clear hlit hlit2 hun hpre;generalize zG (pv ci)=W at *;generalize pv ci=v at *;cases cb with
  |true =>
   cbv;refine yB hc xX wQ ?_;cbv;refine yC oM ?_;cbv;refine yE (by rw[zA,hPl];exact om) ?_;cbv;refine y6 hp (show ci=_ by omega) vA uF ?_;cbv;refine cA cs ?_;cbv;refine rR rfl ?_;cbv;refine zQ (λe=>?_) (λe=>?_);{cbv;exact rA}
   ·have hn:lh (ci,true)=false:=(hlc true).trans (decide_eq_false e);cbv;refine rR rfl ?_;cbv;exact⟨zC om om,i+1,⟨(show i+1<=R.cl.length by omega),λj c hj hjc=>by
     rcases Nat.lt_or_eq_of_le (Nat.le_of_lt_succ hj) with g|g;{exact hno j c g hjc}
     ·rw[g,hc] at hjc;rw[<-vO hjc];exact hn⟩,(show R.cl.length-(i+1)<R.cl.length-i by omega),wkZ⟩
  |false =>
   cbv;refine yB hc xX wQ ?_;cbv;refine yC oM ?_;cbv;refine yE (by rw[zA,hPl];exact om) ?_;cbv;refine y6 hp (show ci=_ by omega) vA uF ?_;cbv;refine cA cs ?_;cbv;refine Tb rfl ?_;cbv;refine Tb rfl ?_;cbv;refine zE (λe=>?_) (λe=>?_);{cbv;exact rA}
   ·have hn:lh (ci,false)=false:=(hlc false).trans (decide_eq_false e);cbv;exact⟨zC om om,i+1,⟨(show i+1<=R.cl.length by omega),λj c hj hjc=>by
     rcases Nat.lt_or_eq_of_le (Nat.le_of_lt_succ hj) with g|g;{exact hno j c g hjc}
     ·rw[g,hc] at hjc;rw[<-vO hjc];exact hn⟩,(show R.cl.length-(i+1)<R.cl.length-i by omega),wkZ⟩
 {exact (hlit λc hc=>by obtain⟨j,hj⟩:=rK hc;have hjl:=(xP.1 hj).1;exact hno j c (by exact om) hj).elim}
end Go.Proofs.YtaeaffgjdcigoaaGreat
