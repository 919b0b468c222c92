/- A part of the proof: WsR, CsA, CtA, CtB, CtC, CtD. -/
import Derived.Test.YtboocdbmnfjomaaGreatV37
import Derived.Test.YtboocdbmnfjomaaGreatV33
import Derived.Test.YtboocdbmnfjomaaGreatV36
import Derived.Test.YtboocdbmnfjomaaGreatV32
import Derived.Test.YtboocdbmnfjomaaGreatV30
import Derived.Test.YtboocdbmnfjomaaGreatV31
import Derived.Test.YtboocdbmnfjomaaGreatV25
set_option linter.all false
namespace Go.Proofs.YtboocdbmnfjomaaGreat
open Go
set_option maxRecDepth 100000
set_option maxHeartbeats 4000000
def Fb (v k:Nat)(fs:List F)(ob:F)(s:SolR)(hP:(⟨v,fs.map fA,fA ob⟩:Prg).sz (2^32))(hv:(⟨v,fs.map fA,fA ob⟩:Prg).valid=true)(hr28:fs.length<2^28)(hv28:v<2^14) (hfl:∀ f,f∈fs->f.ts.length<2^30/\∀ t,t∈f.ts->0<=t.1/\t.1<v) (hol:ob.ts.length<2^30) (hot:∀ t,t∈ob.ts->0<=t.1/\t.1<v) (hf0:∀ E,Pvs (kM v (fs.map (lnS v)) (lnS v ob)) E->E.fit (2^30)) (hW:wrs v (rel v (kM v (fs.map (lnS v)) (lnS v ob)).nb 0 (kM v (fs.map (lnS v)) (lnS v ob),0)).1<0) (hs:JK v fs.length (kM v (fs.map (lnS v)) (lnS v ob))=some s):Sound 111 [pgo 1000009 ⟨v,fs.map fA,fA ob⟩] (rwO 1000009 (fs.map fA)) [] (.tup [slv s,iV 0]) (rwO 1000009 (fs.map fA)) []:=by
 obtain⟨Z,hZ⟩:=ex (zK s.val);show Sound _ _ _ _ (.tup [.agg [iV s.st,zM ((zK s.val).neg),nat (zK s.val).num,nat (zK s.val).den,qlv s.pt,qlv s.du,qlv s.ry,ilv s.bas,iV s.pv],iV 0]) _ _;rw[hZ];have cv:=Ff ⟨v,fs.map fA,fA ob⟩ hP;have cse:=Fc v fs ob oM oM hfl hol hot;have hw0:(kM v (fs.map (lnS v)) (lnS v ob)).wf:=QX (λl hl=>by obtain⟨f,_,rfl⟩:=y9.1 hl;exact YI v f) (YI v ob);have hnl:(kM v (fs.map (lnS v)) (lnS v ob)).nb.length=v:=by simp[kM]
 have hbl:(kM v (fs.map (lnS v)) (lnS v ob)).bs.length=fs.length:=by simp[kM]
 have hy0:∀ y,y∈(kM v (fs.map (lnS v)) (lnS v ob)).bs\/y∈(kM v (fs.map (lnS v)) (lnS v ob)).nb->y<v+fs.length:=λy hy=>by rcases hy with q|q;{obtain⟨k,hk,rfl⟩:=y9.1 q;have:=sZ.1 hk;rw[yH] at this;omega};{have:=sZ.1 q;omega}
 obtain⟨D0,hD0⟩:=ex (kM v (fs.map (lnS v)) (lnS v ob));rw[hD0] at cse hw0 hnl hbl hf0 hW hs hy0;obtain⟨r,hr⟩:=ex fs.length;rw[hr] at cse hbl hs hr28 hy0;have cre:=Pw v r D0 0 hw0 oM oM (by decide) hf0;obtain⟨US,hUS⟩:=ex (fs.map fA);obtain⟨A0,hA0⟩:=ex (fA ob);show Sound _ [.agg [iV v,zT 1000009 4 ((fs.map fA).length),tsv (fA ob).ts,zM ((fA ob).c.neg),nat (fA ob).c.num,nat (fA ob).c.den]] [(1000009,zW 4 (enc ac (fs.map fA)))] [] _ [(1000009,zW 4 (enc ac (fs.map fA)))] [];have cv':Sound 60 [.agg [iV v,zT 1000009 4 ((fs.map fA).length),tsv (fA ob).ts,zM ((fA ob).c.neg),nat (fA ob).c.num,nat (fA ob).c.den]] [(1000009,zW 4 (enc ac (fs.map fA)))] [] _ [(1000009,zW 4 (enc ac (fs.map fA)))] []:=cv;have cse':Sound 164 [.agg [iV v,zT 1000009 4 ((fs.map fA).length),tsv (fA ob).ts,zM ((fA ob).c.neg),nat (fA ob).c.num,nat (fA ob).c.den]] [(1000009,zW 4 (enc ac (fs.map fA)))] [] (.ptr 13 0) [(1000009,zW 4 (enc ac (fs.map fA)))] _:=cse;clear cv cse;have cv:=cv';have cse:=cse';clear cv' cse';obtain⟨XS,hXS⟩:=ex (enc ac (fs.map fA));obtain⟨nu,hnu⟩:=ex ((fs.map fA).length);rw[hXS,hnu,hUS,hA0] at cv;rw[hXS,hnu,hA0] at cse;rw[hXS,hnu,hA0];rw[hUS,hA0] at hv;obtain⟨bv,hbv⟩:=ex (Prg.valid ⟨(v:Int),US,A0⟩);rw[hbv] at cv hv;clear hbv;obtain⟨ots,oc⟩:=A0;obtain⟨V,hV⟩:∃ V:Int,(v:Int)=V:=⟨_,rfl⟩;have hrel:=oB (v:=v) hw0 D0.nb 0 (D0,0) rfl (xO _) .refl (λe he=>absurd he oM);unfold JK at hs;clear hol hot hfl hP;obtain⟨⟨E,q⟩,hR1⟩:∃ R,rel v D0.nb 0 (D0,0)=R:=⟨_,rfl⟩;rw[hR1] at cre hs hW hrel;dsimp only at cre hs hW hrel;obtain⟨q1,q2,q3⟩:=hrel;have hwE:=q1.wf hw0;have hlE:=q1.len;have hyE:∀ y,y∈E.bs\/y∈E.nb->y<v+r:=λy hy=>hy0 y (((q1.same hw0).vars y).1 hy);have hfE:∀ G,Pvs E G->G.fit (2^30):=λG hG=>hf0 G (q1.trans hG);have cfe:=DO v r E q hwE oM oM (hfE E .refl) hW;have hR2:Bk v r E q=(E,q,none,true):=by unfold Bk;rw[if_pos hW]
 rw[hR2] at hs;dsimp only at hs;refine xB FB rfl rfl rfl rfl rfl ?_;cbv;refine kA id cv ?_;cbv;refine zZ (λe=>?_) (λe=>by rw[hv] at e;cases e);cbv;refine kA id cse ?_;cbv;refine Yo (ps':=⟨[(2,.ptr 2 0),(4,.ptr 4 0),(17,.ptr 13 0)],[(1000009,zW 4 XS),(2,.box [iV 0,.ff,.nil,.nil,.nil,.nil,.nil,.nil,iV 0])]++sP v r D0 0++[(4,.box [.ptr 13 0])]⟩) X7 (wkW) rfl okA cre okR rfl rfl rfl rfl rfl rfl rfl rfl ?_;cbv;have cfe':Sound _ _ _ _ (.tup [.nil,zM true]) _ _:=cfe;refine Yo (ps':=⟨[(2,.ptr 2 0),(4,.ptr 4 0),(20,.ptr 13 0)],[(1000009,zW 4 XS),(2,.box [iV 0,.ff,.nil,.nil,.nil,.nil,.nil,.nil,iV 0])]++sP v r E q++[(4,.box [.ptr 13 0])]⟩) X7 (wkW) rfl okA cfe' okR rfl rfl rfl rfl rfl rfl rfl rfl ?_;cbv;refine zZ (λ_=>?_) (λe1=>by cases e1);cbv;refine zZ (λ_=>?_) (λe1=>by cases e1);have hobE:=hwE.ob;have hfE0:=hfE E .refl;obtain⟨FR,hFR⟩:=ex (Wc v E.ob E.nb 0);rw[hFR] at hs;cbv;refine zY (σ:=Nat) (λi=>⟨[(2,.ptr 2 0),(4,.ptr 4 0),(38,zT 26 1 E.nb.length),(39,iV E.nb.length),(40,iV i)],[(1000009,zW 4 XS),(2,.box [iV 0,.ff,.nil,.nil,.nil,.nil,.nil,.nil,iV 0])]++sP v r E q++[(4,.box [.ptr 13 0])]⟩)
  (λi=>i<=E.nb.length/\FR=Wc v E.ob (E.nb.drop i) i) (λi=>E.nb.length-i) 0 ⟨xO _,hFR.symm⟩ (wkW) ?_
 intro i hi;obtain⟨g1,g2⟩:=hi;cbv;refine zG (λh=>?_) (λh=>?_)
 ·(have hiE:i<E.nb.length:=om;obtain⟨y,hyi⟩:=yZ hiE;obtain⟨c,hc⟩:=yZ (show i<E.ob.length by omega);rw[nZ hyi,Wc,getD_some hc] at g2;obtain⟨C,hC⟩:=ex (zK c);have szC:C.sz (2^30):=by rw[<-hC];exact z5 (hfE0.ob c (yE hc)));have qC:C.q=c:=by rw[<-hC];exact yD c
  (have csc:=s86 C (by have:=szC.n;omega);rw[qC] at csc;have cfr:=b9 v r E q y;have hle:i+1<=E.nb.length:=hiE;have hmu:E.nb.length-(i+1)<E.nb.length-i:=by omega);have hs0:yG c≠0↔c≠0:=sgnQ_ne
  (have hrg:-1<=yG c/\yG c<=1:=by unfold yG;split <;> (try split) <;> constructor <;> decide);have hcg:E.ob.getD i 0=c:=getD_some hc
  have hfk:Fits (2^32) (((-(yG c):Int)):Rat):=(DA c).mono (by decide);generalize hsc:yG c=sc at *;cbv;refine⟨z9 om om,?_⟩;refine lI hyi om ?_;cbv;refine⟨z9 om om,?_⟩;refine pH hc om hC ?_;cbv;refine cA csc ?_;cbv;refine kA X7 cfr ?_;cbv;refine zX (λh1=>?_) (λh1=>?_)
  rotate_left
  {cbv;refine⟨zE om om,?_⟩;cbv;exact⟨i+1,⟨hle,g2.trans (by rw[if_neg (λw=>h1 (by have:=w.1;exact om))])⟩,hmu,wkW⟩}
  (have hyv:y<v:=by exact om);cbv
  refine zG (λh2=>?_) (λh2=>?_);{cbv;refine⟨zE om om,?_⟩;cbv;exact⟨i+1,⟨hle,g2.trans (by rw[if_neg (λw=>hs0.2 w.2 h2)])⟩,hmu,wkW⟩}
  (rw[if_pos ⟨hyv,hs0.1 h2⟩] at g2;rw[g2] at hs;dsimp only at hs;have hs':=qP hs;subst hs';have hZ0:Z=⟨false,[],[]⟩:=by rw[<-hZ];show zK 0=_;unfold zK;simp[yV]);subst hZ0
  have cpt:=Xk v r E q hwE oM oM oM;have cof:=JX (-sc) oM oM;have cry:=DL v r E q i (((-sc:Int)):Rat) hwE hiE oM oM oM (hfE0.mono (by decide)) hfk;obtain⟨PT,hPT⟩:=ex (pnt v E);obtain⟨RY,hRY⟩:=ex (UL v E i (((-sc:Int)):Rat));obtain⟨OF,hOF⟩:=ex (zK (((-sc:Int)):Rat));rw[hPT] at cpt;rw[hRY,hOF] at cry;rw[hOF] at cof;rw[hcg,hsc,hPT,hRY];cbv;refine zP 12 (by cbv) ?_;cbv;refine bD X7 okA cpt okR rfl rfl rfl rfl rfl rfl ?_;cbv;refine⟨zE om om,?_⟩;cbv;refine wK (by exact⟨zF (by show 0-sc=-sc;omega),trivial⟩) cof rfl ?_;cbv;refine bD X7 okA cry okR rfl rfl rfl rfl rfl rfl ?_;cbv;refine rY id (.refl _) rfl okR (by rfl) okR ?_;cbv;exact okA
 ·have hiE:i=E.nb.length:=om;rw[hiE,vE] at g2;have hFN:FR=none:=g2;rw[hFN] at hs;dsimp only at hs;clear hFR g2;have cmi:=AY v r E q hwE oM oM oM hfE;have hmp:=(Ks (v:=v) (ln:=Dic.ob) (65537-q) E q).1;obtain⟨⟨F,q2,e,okk⟩,hR3⟩:∃ R,r8 v Dic.ob (65537-q) E q=R:=⟨_,rfl⟩;rw[hR3] at cmi hmp hs;dsimp only at cmi hmp hs;have hwF:=hmp.wf hwE;have hlF:=hmp.len;have hfF:=hfE F hmp;have hobF:=hwF.ob;cbv;refine kB X7 (.refl _) rfl (by exact⟨lR,⟨rfl,lR,trivial⟩,trivial⟩) cmi ?_;cbv;have hme:=CH (v:=v) (ln:=Dic.ob) (λD=>rfl) (65537-q) E q;rw[hR3] at hme;dsimp only at hme;refine zZ (λe3=>?_) (λe3=>by rw[e3] at hs;cases hs);rw[e3] at hs;dsimp only at hs;clear cmi hR3;cbv;refine zG (λh3=>?_) (λh3=>?_)
  ·(have h3':0<=e:=h3;rw[if_pos h3'] at hs;have hs':=qP hs;subst hs';have hZ0:Z=⟨false,[],[]⟩:=by rw[<-hZ];show zK 0=_;unfold zK;simp[yV]);subst hZ0
   obtain⟨n,hn⟩:∃ n:Nat,e=n:=⟨e.toNat,by omega⟩;subst hn;have hnF:=hme h3';rw[uF] at hnF ⊢;have cpt:=Xk v r F q2 hwF oM oM oM;have cof:=JX 1 (by decide) (by decide);have cry:=DL v r F q2 n (((1:Int)):Rat) hwF hnF oM oM oM (hfF.mono (by decide)) (fits_one.mono (by decide));have h11:(((1:Int)):Rat)=1:=rfl;rw[h11] at cof cry;obtain⟨PT,hPT⟩:=ex (pnt v F);obtain⟨RY,hRY⟩:=ex (UL v F n 1);obtain⟨OF,hOF⟩:=ex (zK 1);rw[hPT] at cpt;rw[hRY,hOF] at cry;rw[hOF] at cof;rw[hPT,hRY];cbv;refine zP 10 (by cbv) ?_;cbv;refine bD X7 okA cpt okR rfl rfl rfl rfl rfl rfl ?_;cbv;refine dA cof ?_;cbv;refine bD X7 okA cry okR rfl rfl rfl rfl rfl rfl ?_;cbv;refine rY id (.refl _) rfl okR (by rfl) okR ?_;cbv;exact okA
  ·(have h3':¬0<=e:=h3;rw[if_neg h3'] at hs;have hs':=qP hs;subst hs';obtain⟨x,hx⟩:=yZ (show F.nb.length<F.ob.length by omega);have hZ:zK x=Z:=by rw[<-hZ];show zK x=zK (F.ob.getD F.nb.length 0);rw[getD_some hx]);have cpt:=Xk v r F q2 hwF oM oM oM
   have cdu:=AZ v r F q2 hobF oM oM oM (λy hy=>by
    rcases (hmp.same hwE).vars y |>.1 (.inr hy) with w|w;{have:=hyE y (.inl w);omega}
    ·have:=hyE y (.inr w);omega)
   have ccl:=A2 (enc ci F.bs) (λe he=>by unfold enc at he;obtain⟨x,_,rfl⟩:=y9.1 he;rfl) (by rw[zB];omega);rw[zB] at ccl;obtain⟨PT,hPT⟩:=ex (pnt v F);obtain⟨DU,hDU⟩:=ex (BD v r F.nb F.ob);rw[hPT] at cpt;rw[hDU] at cdu;rw[hPT,hDU];cbv;refine zP 28 (by cbv) ?_;cbv;refine⟨z9 om om,?_⟩;refine pH hx om hZ ?_;cbv;refine bD X7 okA cpt okR rfl rfl rfl rfl rfl rfl ?_;cbv;refine bD X7 okA cdu okR rfl rfl rfl rfl rfl rfl ?_;cbv;refine bD X7 okA ccl okR rfl rfl rfl rfl rfl rfl ?_;cbv;refine rY id (.refl _) rfl okR (by rfl) okR ?_;cbv;exact okA
theorem PX.solveR {v k n:Nat}{fs:List F}{ob:F}{s:SolR}(h:PX v fs ob k n)(hW:wrs v (rel v (kM v (fs.map (lnS v)) (lnS v ob)).nb 0 (kM v (fs.map (lnS v)) (lnS v ob),0)).1<0) (hs:JK v fs.length (kM v (fs.map (lnS v)) (lnS v ob))=some s):Sound 111 [pgo 1000009 (prg v fs ob)] (rwO 1000009 (fs.map fA)) [] (.tup [slv s,iV 0]) (rwO 1000009 (fs.map fA)) []:=by
 have hl:∀ l,l∈fs.map (lnS v)->l.length=v+1:=λl hl=>by obtain⟨f,hf,rfl⟩:=y9.1 hl;exact Kx
 have hw0:=QX hl (Kx (f:=ob));have hf:=G7 (v:=v) h.k1 (λf hf=>(h.rows f hf).1) h.obj.1;have h6:5^v<=625:=c8 (n:=5) (by decide) h.lv;have h7:5^v*k<=625*k:=uR k h6;have h0:=h.k2;have h1:=h.hn;have h2:=h.lv;have h3:=h.len;have hnl:(kM v (fs.map (lnS v)) (lnS v ob)).nb.length=v:=by simp[kM]
 exact Fb v 0 fs ob s (h.sz.mono oM) h.valid oM oM
  (λf hf=>⟨by have:=(h.rows f hf).1.len;omega,(h.rows f hf).2.v⟩) (by have:=h.obj.1.len;omega) h.obj.2.v
  (λE hE=>(DH hw0 (hE.wf hw0) (hE.same hw0).symm (λX hX=>(hE.val hw0 hX).symm) h.k1 hf (Nat.le_of_eq hnl)).mono oM) hW hs
def cxF:List F:=[⟨[(0,1)],0⟩,⟨[(0,-1)],3⟩,⟨[(1,1)],0⟩]
def cxG:List F:=cxF++[⟨[(0,-1),(1,1)],1⟩]
def cxO:F:=⟨[(1,1)],0⟩
def cxN:F:=⟨[(1,-1)],0⟩
def tW:∀ f,f∈cxN::cxG->f.fl 1 4/\f.wf 2:=λf hf=>by
 have hf:f=⟨[(1,-1)],0⟩\/f=⟨[(0,1)],0⟩\/f=⟨[(0,-1)],3⟩\/f=⟨[(1,1)],0⟩\/f=⟨[(0,-1),(1,1)],1⟩:=by simpa[cxG,cxF,cxN] using hf
 rcases hf with rfl|rfl|rfl|rfl|rfl;{exact⟨⟨λt ht=>by rw[fZ.1 ht];exact⟨by decide,by decide⟩,⟨by decide,by decide⟩,by decide⟩,QP (by decide +kernel)⟩};{exact⟨⟨λt ht=>by rw[fZ.1 ht];exact⟨by decide,by decide⟩,⟨by decide,by decide⟩,by decide⟩,QP (by decide +kernel)⟩};{exact⟨⟨λt ht=>by rw[fZ.1 ht];exact⟨by decide,by decide⟩,⟨by decide,by decide⟩,by decide⟩,QP (by decide +kernel)⟩};{exact⟨⟨λt ht=>by rw[fZ.1 ht];exact⟨by decide,by decide⟩,⟨by decide,by decide⟩,by decide⟩,QP (by decide +kernel)⟩}
 ·exact⟨⟨λt ht=>by
   (have ht:t=(0,-1)\/t=(1,1):=by simpa using ht);rcases ht with rfl|rfl <;> exact⟨by decide,by decide⟩,⟨by decide,by decide⟩,by decide⟩,QP (by decide +kernel)⟩
def Hq {f:F}(h:f∈cxF):f∈cxN::cxG:=w6 _ (wZ.2 (.inl h))
def Qq:cxO∈cxN::cxG:=Hq (by simp[cxF,cxO])
def cxO_px:PX 2 cxF cxO 1 4:=⟨by decide,by decide,λf hf=>tW f (Hq hf),tW _ Qq,by decide,by decide,by decide⟩
def cxN_px:PX 2 cxF cxN 1 4:=⟨by decide,by decide,λf hf=>tW f (Hq hf),tW _ vH,by decide,by decide,by decide⟩
def cxG_px:PX 2 cxG cxN 1 4:=⟨by decide,by decide,λf hf=>tW f (w6 _ hf),tW _ vH,by decide,by decide,by decide⟩
def cxP:SolR:=⟨1,0,[0,0],[0,0,1],[],[0,3,1],2⟩
def cxT:SolR:=⟨3,0,[0,0],[],[0,1],[],2⟩
def Pd (s:SolR):((Nat×Rat)×(List Rat×List Rat))×((List Rat×List Nat)×Nat):=(((s.st,s.val),(s.pt,s.du)),((s.ry,s.bas),s.pv))
def Up:∀ {o:Option SolR} {s:SolR},o.map Pd=some (Pd s)->o=some s
 |none,_,h=>by cases h
 |some ⟨a,b,c,d,e,f,g⟩,⟨a',b',c',d',e',f',g'⟩,h=>by have:=qP h;unfold Pd at this;simp only[GQ] at this;obtain⟨⟨⟨rfl,rfl⟩,⟨rfl,rfl⟩⟩,⟨rfl,rfl⟩,rfl⟩:=this;rfl
def Nt:Sound 111 [pgo 1000009 (prg 2 cxF cxO)] (rwO 1000009 (cxF.map fA)) [] (.tup [slv cxP,iV 0]) (rwO 1000009 (cxF.map fA)) []:=cxO_px.solveR (by decide +kernel) (Up (by decide +kernel))
def Ns:Sound 111 [pgo 1000009 (prg 2 cxF cxN)] (rwO 1000009 (cxF.map fA)) [] (.tup [slv cxT,iV 0]) (rwO 1000009 (cxF.map fA)) []:=cxN_px.solveR (by decide +kernel) (Up (by decide +kernel))
def Nr:Sound 111 [pgo 1000009 (prg 2 cxG cxN)] (rwO 1000009 (cxG.map fA)) [] (.tup [slv cxT,iV 0]) (rwO 1000009 (cxG.map fA)) []:=cxG_px.solveR (by decide +kernel) (Up (by decide +kernel))
def UB (g:Grp)(hg:g.sz (2^32)):zH 31 [gv g] (iV (if g.valid=true then g.vars else 0)):=by
 refine sF Tryz.f31 ?_;have cv:=Ke g ⟨hg.us.mono (by decide),hg.os.mono (by decide)⟩;have hb:g.valid=true->1<=g.n/\g.n<=256/\g.us.length<=1024:=λh=>by unfold Grp.valid at h;grind
 have hd:g.vars=g.n+g.us.length:=rfl;generalize g.vars=w at *;generalize g.valid=b at *;obtain⟨n,us,os⟩:=g;dsimp only at hb hd;cbv;refine cA cv ?_;cbv;refine zZ (λe=>?_) (λe=>?_)
 ·have hb':=hb e;cbv;refine⟨zE okQ okQ,?_⟩;cbv
  (refine rC ?_;cbv)
  exact zF (by rw[zB,if_pos e,hd])
 ·cbv
  (refine rC ?_;cbv)
  exact zF (by grind)
def Scp.forms (s:Scp):List A:=s.all.map λr=>fA ((s.fm r).getD F.zero)
def cuP (s:Scp) (f:A):Prg:=⟨s.q.g.vars,s.forms,f⟩
def Sn {q:Qry}(h:q.valid=true):q.g.valid=true:=by unfold Qry.valid at h;simp only[xA] at h;exact h.1.1
structure Bnd6 (s:Scp):Prop where
 sz:s.sz (2^20)
 n:s.q.g.n<=1000000
 r:s.q.r.rows.length<=1000000
 p:s.path.length<=1000000
 u:s.q.g.us.length<=1000000
 l:s.all.length<=1000
def Xu {rs:List ResultVar}{r:PV}{ps ps':PS}{kept made:List (Nat×Obj')}(h:Nat->Nat)(hw:Wk ps ps')(h3:lv r=true)(h4:uA h ps'.objs (kept++made))(h5:ndO (yC h (kept++made))=true)(h6:ZJ h kept)(hr:match dW ps' rs with
  |some l=>les (mM l) (ren h r)| none=>False):RetOk rs r kept made ps:=by
 cases h1:dW ps' rs with
 |none=>rw[h1] at hr;exact hr.elim| some l=>rw[h1] at hr;exact⟨ps',l,h,hw,h1,cO hr,h3,h4,h5,h6⟩
def Dp:ty 32=.sli 4 80 [.nil,.ff,.nil,.nil]:=by cbv
def SB:Pg.funcs[9]?=some Tryz.f9:=by rw[vI];rfl
def PJ (s:Scp)(f:A)(hb:Bnd6 s)(hf:f.sz (2^32))(hv:s.q.valid=true)(hfv:f.valid s.q.g.vars=true):zH 9 [sv s,av f] (.tup [pgv (cuP s f),x9 s.all,iV 0]):=by
 refine xB SB rfl rfl rfl rfl rfl ?_;have c1:=UB s.q.g (hb.sz.q.g.mono (by decide));have c2:=mE s.q (hb.sz.q.mono (by decide));have c3:=gF f s.q.g.vars (hf.mono (by decide));have c4:=DR s hb.sz hb.n hb.r hb.p hb.u;have c5:=λr=>HX s r (hb.sz.mono (by decide));have hl:=hb.l;rw[if_pos (Sn hv)] at c1;rw[hv] at c2;rw[hfv] at c3;unfold cuP Scp.forms;obtain⟨FR,hFR⟩:∃ FR:Row->A,(λr=>fA ((s.fm r).getD F.zero))=FR:=⟨_,rfl⟩;rw[hFR];replace c5:∀ r,zH 35 [sv s,rwv r] (.tup [av (FR r),zM ((s.fm r).isSome)]):=λr=>by rw[<-hFR];exact c5 r
 clear hFR hv hfv hb hf;generalize s.fm=FM at *;generalize s.q.g.vars=V at *;generalize s.all=L at *;obtain⟨⟨⟨n,us,os⟩,⟨lo,hi,rows⟩,⟨gts,gc⟩⟩,path,lems⟩:=s;obtain⟨ts,c⟩:=f;dsimp only at c1 c2 c3 c4 c5;cbv;refine cA c1 ?_;cbv;refine cA c2 ?_;cbv;refine GF rfl ?_;cbv;refine cA c3 ?_;cbv;refine tD rfl ?_;cbv;refine cA c4 ?_;clear c1 c2 c3 c4;cbv;refine zY (σ:=Nat) (λi=>⟨[(2,.ptr 2 0),(4,.ptr 4 0),(8,.ptr 8 0),(9,x9 L),(34,x9 L),(35,iV L.length),(36,iV i)],[(2,.box [iV n,alv us,alv os,rlv lo,rlv hi,alv rows,tsv gts,zM gc.neg,nat gc.num,nat gc.den,dlv path,llv lems]),(4,.box [iV 0,.nil,.nil,.ff,.nil,.nil]),(8,.box [iV V,zT 50 4 i,tsv ts,zM c.neg,nat c.num,nat c.den]),(50,zW 4 (enc ac ((L.take i).map FR)))]⟩)
  (λi=>i<=L.length) (λi=>L.length-i) 0 (xO _)
  (.trans (.le (ps':=⟨[(2,.ptr 2 0),(4,.ptr 4 0),(8,.ptr 8 0),(9,x9 L),(34,x9 L),(35,iV L.length),(36,iV (((0:Nat):Int)))],[(2,.box [iV n,alv us,alv os,rlv lo,rlv hi,alv rows,tsv gts,zM gc.neg,nat gc.num,nat gc.den,dlv path,llv lems]),(4,.box [iV 0,.nil,.nil,.ff,.nil,.nil]),(8,.box [iV V,.nil,tsv ts,zM c.neg,nat c.num,nat c.den])]⟩) (by cbv;repeat' first|exact trivial|exact lR|exact zF (by (try dsimp only [zS] at *);rw[zB])|apply And.intro) (by cbv;repeat' first|exact trivial|exact lR|apply And.intro) rfl)
   (.trans (.adoptB (cs:=[iV V,.nil,tsv ts,zM c.neg,nat c.num,nat c.den]) 50 4 8 1 rfl rfl rfl)
   (.le okZ (by cbv;repeat' first|exact trivial|exact lR|exact zC rfl|apply And.intro) rfl))) ?_
 intro i hi;cbv;refine zG (λh=>?_) (λh=>?_)
 ·(have hlt:i<L.length:=om;obtain⟨r,hr⟩:=yB hlt;have c6:=c5 r;have htk:enc ac ((L.take (i+1)).map FR)=enc ac ((L.take i).map FR)++enc ac [FR r]:=by rw[z3,rJ,hr,qS];rfl);have htl:((L.take i).map FR).length=i:=by rw[yH,xP];omega
  obtain⟨⟨ats,acc⟩,hA⟩:∃ a,FR r=a:=⟨_,rfl⟩;rw[hA] at c6 htk;clear c5 hA;generalize (FM r).isSome=bs at *;generalize (L.take i).map FR=XS at *;cbv;refine xL hr k7 u6 ?_;cbv;refine cA c6 ?_;cbv;refine rU ?_;cbv;refine xE Dp rfl rfl rfl (by rw[zB,htl]) rfl ⟨by simp[zI,y7]⟩ (zV (by simp[zI] <;> omega) (by simp[zI,zB,htl];exact om)) rfl ?_;cbv;exact⟨zE om om,i+1,hlt,by show L.length-(i+1)<L.length-i;omega,.le okZ (by cbv;repeat' first|exact trivial|exact lR|exact zR rfl (by rw[zB,htl];rfl)|exact zC htk.symm|apply And.intro) rfl⟩
 ·(have hil:i=L.length:=om;subst hil;have hin:L.take L.length=L:=vV;rw[hin];have hxl:(enc ac (L.map FR)).length=L.length:=by rw[zB,yH]);generalize enc ac (L.map FR)=XS at *
  cbv;refine Xu id (.frz 50 rfl rfl (by cbv;repeat' first|exact trivial|exact z6 (by rw[hxl];omega)|apply And.intro) (by cbv;repeat' first|exact trivial|exact z6 (by rw[hxl];omega)|apply And.intro)) rfl (by exact trivial) (by rfl) (by exact trivial) ?_;cbv
  repeat' first|exact trivial|exact lR|exact zU (by rw[<-hxl,vV];rfl)|exact zU (by simp[<-hxl])|apply And.intro
def C7:Pg.funcs[10]?=some Tryz.f10:=by rw[vI];rfl
def HY (s:Scp)(f:A)(hb:Bnd6 s)(hf:f.sz (2^32))(hv:s.q.valid=true)(hfv:f.valid s.q.g.vars=true):zH 10 [sv s,av f] (.tup [pgv (cuP s f),x9 s.all,iV 0]):=by
 refine xB C7 rfl rfl rfl rfl rfl ?_;have c1:=Kc s.q.g (hb.sz.q.g.mono (by decide));have c2:=DY s.q (hb.sz.q.mono (by decide));have c3:=A6 f s.q.g.vars hf;have c4:=Sb s hb.sz hb.n hb.r hb.p hb.u;have c5:=λr=>Xn s r hb.sz;have hl:=hb.l;rw[if_pos (Sn hv)] at c1;rw[hv] at c2;rw[hfv] at c3;unfold cuP Scp.forms;obtain⟨FR,hFR⟩:∃ FR:Row->A,(λr=>fA ((s.fm r).getD F.zero))=FR:=⟨_,rfl⟩;rw[hFR];replace c5:∀ r,zH 39 [sv s,rwv r] (.tup [av (FR r),zM ((s.fm r).isSome)]):=λr=>by rw[<-hFR];exact c5 r
 clear hFR hv hfv hb hf;generalize s.fm=FM at *;generalize s.q.g.vars=V at *;generalize s.all=L at *;obtain⟨⟨⟨n,us,os⟩,⟨lo,hi,rows⟩,⟨gts,gc⟩⟩,path,lems⟩:=s;obtain⟨ts,c⟩:=f;dsimp only at c1 c2 c3 c4 c5;cbv;refine cA c1 ?_;cbv;refine cA c2 ?_;cbv;refine GF rfl ?_;cbv;refine cA c3 ?_;cbv;refine tD rfl ?_;cbv;refine cA c4 ?_;clear c1 c2 c3 c4;cbv;refine zY (σ:=Nat) (λi=>⟨[(2,.ptr 2 0),(4,.ptr 4 0),(8,.ptr 8 0),(9,x9 L),(10,iV i)],[(2,.box [iV n,alv us,alv os,rlv lo,rlv hi,alv rows,tsv gts,zM gc.neg,nat gc.num,nat gc.den,dlv path,llv lems]),(4,.box [iV 0,.nil,.nil,.ff,.nil,.nil]),(8,.box [iV V,zT 52 4 i,tsv ts,zM c.neg,nat c.num,nat c.den]),(52,zW 4 (enc ac ((L.take i).map FR)))]⟩)
  (λi=>i<=L.length) (λi=>L.length-i) 0 (xO _)
  (.trans (wkY (ps':=⟨[(2,.ptr 2 0),(4,.ptr 4 0),(8,.ptr 8 0),(9,x9 L),(10,iV (((0:Nat):Int)))],[(2,.box [iV n,alv us,alv os,rlv lo,rlv hi,alv rows,tsv gts,zM gc.neg,nat gc.num,nat gc.den,dlv path,llv lems]),(4,.box [iV 0,.nil,.nil,.ff,.nil,.nil]),(8,.box [iV V,.nil,tsv ts,zM c.neg,nat c.num,nat c.den])]⟩) (by cbv;repeat' first|exact trivial|exact lR|apply And.intro))
   (.trans (.adoptB (cs:=[iV V,.nil,tsv ts,zM c.neg,nat c.num,nat c.den]) 52 4 8 1 rfl rfl rfl)
   (.le okZ (by cbv;repeat' first|exact trivial|exact lR|exact zC rfl|apply And.intro) rfl))) ?_
 intro i hi;cbv;refine zG (λh=>?_) (λh=>?_)
 ·(have hlt:i<L.length:=by rw[zB] at h;exact om);obtain⟨r,hr⟩:=yB hlt
  (have c6:=c5 r;have htk:enc ac ((L.take (i+1)).map FR)=enc ac ((L.take i).map FR)++enc ac [FR r]:=by rw[z3,rJ,hr,qS];rfl);have htl:((L.take i).map FR).length=i:=by rw[yH,xP];omega
  obtain⟨⟨ats,acc⟩,hA⟩:∃ a,FR r=a:=⟨_,rfl⟩;rw[hA] at c6 htk;clear c5 hA;generalize (FM r).isSome=bs at *;generalize (L.take i).map FR=XS at *;cbv;refine uB 11 [(10,11)] (by cbv) (by cbv) (by cbv) ?_;cbv;refine xL hr k7 u6 ?_;cbv;refine dA c6 ?_;cbv;refine rU ?_;cbv;refine xE Dp rfl rfl rfl (by rw[zB,htl]) rfl ⟨by simp[zI,y7]⟩ (zV (by simp[zI] <;> omega) (by simp[zI,zB,htl];exact om)) rfl ?_;cbv;exact⟨zE om om,i+1,hlt,by show L.length-(i+1)<L.length-i;omega,.le okZ (by cbv;repeat' first|exact trivial|exact lR|exact zR rfl (by rw[zB,htl];rfl)|exact zC htk.symm|apply And.intro) rfl⟩
 ·(have hil:i=L.length:=by rw[zB] at h;exact om);subst hil
  (have hin:L.take L.length=L:=vV;rw[hin];have hxl:(enc ac (L.map FR)).length=L.length:=by rw[zB,yH]);generalize enc ac (L.map FR)=XS at *
  cbv;refine Xu id (.frz 52 rfl rfl (by cbv;repeat' first|exact trivial|exact z6 (by rw[hxl];omega)|apply And.intro) (by cbv;repeat' first|exact trivial|exact z6 (by rw[hxl];omega)|apply And.intro)) rfl (by exact trivial) (by rfl) (by exact trivial) ?_;cbv
  repeat' first|exact trivial|exact lR|exact zU (by rw[<-hxl,vV];rfl)|exact zU (by simp[<-hxl])|apply And.intro
def cuS (raw:List UInt8) (b:Bool):Scp:=if b=true then (fdS raw).bounded else fdS raw
def DX (raw:List UInt8)(hr:raw.length<2^38)(b:Bool):zH 8 [u8v raw,zM b] (sv (cuS raw b)):=by
 refine sF Tryz.f8 ?_;have c1:=DZ raw hr;have c2:=Sa raw;have h1:cuS raw true=(fdS raw).bounded:=rfl;have h0:cuS raw false=fdS raw:=rfl;have hl:(fdS raw).lems=[]:=rfl;generalize (fdS raw).bounded=B at *;generalize fdS raw=P at *;obtain⟨⟨⟨n,us,os⟩,⟨lo,hi,rows⟩,⟨gts,gc⟩⟩,path,lems⟩:=P;obtain⟨⟨⟨n',us',os'⟩,⟨lo',hi',rows'⟩,⟨gts',gc'⟩⟩,path',lems'⟩:=B;dsimp only at hl;subst hl;cases b with
 |true =>
  rw[h1];clear h1 h0;cbv;refine cA c1 ?_;cbv;refine tD rfl ?_;cbv;refine cA c2 ?_;cbv
  (refine rC ?_;cbv)
  repeat' first|exact trivial|exact lR|apply And.intro
 |false =>
  rw[h0];clear h1 h0;cbv;refine cA c1 ?_;cbv;refine m0 rfl ?_;cbv
  (refine rC ?_;cbv)
  repeat' first|exact trivial|exact lR|exact xC rfl|apply And.intro
def o6 (raw:List UInt8)(b:Bool):(cuS raw b).q=(fdY raw 0).1.q:=by cases b <;> rfl
def WB (raw:List UInt8)(b:Bool):(cuS raw b).path=(fdS raw).path:=by cases b <;> rfl
def Uf (raw:List UInt8)(b:Bool):(cuS raw b).q.valid=true:=by rw[o6];exact (j1 raw 0).valid (Bl raw 0)
def SL (raw:List UInt8)(b:Bool):Bnd6 (cuS raw b):=by
 have hx:=j1 raw 0;have h1:(cuS raw b).q.g.n<=3:=by rw[o6];have:=hx.g.n2;show ((fdY raw 0).1.g.n:Int)<=3;omega
 have h2:(cuS raw b).q.r.rows.length<=2:=by rw[o6];have:=hx.r.rows;show ((fdY raw 0).1.r.rows.map fA).length<=2;rw[yH];omega
 have h3:(cuS raw b).path.length<=3:=by rw[WB];exact (Wi raw).2
 have h4:(cuS raw b).q.g.us.length<=4:=by rw[o6];have:=hx.g.us;show ((fdY raw 0).1.g.us.map fA).length<=4;rw[yH];omega
 refine⟨?_,by omega,by omega,by omega,by omega,?_⟩
 ·cases b with
  |true=>exact Ht raw| false =>
   have g:=U9 raw;exact⟨g.q.mono (by decide),⟨g.path.len,λd hd=>(g.path.sz d hd).mono (by decide)⟩,⟨by show 0<2^38;decide,λm hm=>absurd hm (by simp[cuS,fdS]),λm hm=>absurd hm (by simp[cuS,fdS])⟩⟩
 {obtain⟨A,B,C,D,Q⟩:=QD (Uf raw b);rw[Q.e];have h:=Q.ld (cuS raw b).q.g.us.length;omega}
abbrev vob (n:Nat) (l:List Mult):List (Nat×Obj'):=[(n,zW 7 (enc mc l))]
def Pv (l:List Mult)(hl:l.length<=1):Sound 153 [zT 1000000 7 l.length,iV 0,iV l.length,.fn 44 []] (vob 1000000 l) [] (.tup []) (vob 1000000 l) []:=by refine sF Tryz.f153 ?_;dsimp only [vob];generalize enc mc l=XS at *;cbv;refine⟨zE om om,?_⟩;cbv;refine zY (σ:=Unit) (λ_=>⟨[(2,iV l.length),(8,iV 1)],[(1000000,zW 7 XS)]⟩) (λ_=>True) (λ_=>0) () trivial (wkZ) ?_;intro _ _;cbv;refine yA om ?_;cbv;refine Xu id (.refl _) rfl okR (by rfl) okR ?_;cbv
def C2:Pg.funcs[96]?=some Tryz.f96:=by rw[vI];rfl
def Pq (l:List Mult)(hl:l.length<=1):Sound 96 [zT 1000000 7 l.length,iV l.length,.fn 44 []] (vob 1000000 l) [] (.tup []) (vob 1000000 l) []:=by have ci:=Pv l hl;refine xB C2 rfl rfl rfl rfl rfl ?_;dsimp only [vob] at *;generalize enc mc l=XS at *;cbv;refine zY (σ:=Unit) (λ_=>⟨[(0,zT 1000000 7 l.length),(1,iV l.length),(2,.fn 44 []),(6,iV 20),(7,iV 0),(8,iV 20)],[(1000000,zW 7 XS)]⟩) (λ_=>True) (λ_=>0) () trivial (wkZ) ?_;intro _ _;cbv;refine yA om ?_;cbv;refine kB id (.refl _) rfl (by exact⟨lR,lR,lR,⟨rfl,trivial⟩,trivial⟩) ci ?_;cbv;refine zY (σ:=Unit) (λ_=>⟨[(1,iV l.length),(6,iV 20)],[(1000000,zW 7 XS)]⟩) (λ_=>True) (λ_=>0) () trivial (wkZ) ?_;intro _ _;cbv;refine yA om ?_;cbv;refine Xu id (.refl _) rfl okR (by rfl) okR ?_;cbv
def GS (l l':List Mult):Prop:=Sound 43 [zT 1000000 7 l.length,.fn 44 []] (vob 1000000 l) [] (.tup []) (vob 1000000 l') []
def C3:Pg.funcs[43]?=some Tryz.f43:=by rw[vI];rfl
def Ps (l:List Mult)(hl:l.length<=1):GS l l:=by have ci:=Pq l hl;refine xB C3 rfl rfl rfl rfl rfl ?_;dsimp only [vob] at *;generalize enc mc l=XS at *;cbv;refine kB id (.refl _) rfl (by exact⟨lR,lR,⟨rfl,trivial⟩,trivial⟩) ci ?_;cbv;refine Xu id (.refl _) rfl okR (by rfl) okR ?_;cbv
def qG (val:Row->Rat) (L:List Row):List Mult:=L.flatMap λr=>if val r<0 then [⟨r,zK (val r)⟩] else []
def RI:ty 89=.sli 7 88 [iV 0,iV 0,iV 0,iV 0,.ff,.nil,.nil]:=by cbv
def s9:ty 47=.sli 4 32 [iV 0,iV 0,iV 0,iV 0]:=by cbv
def gD (val:Row->Rat):∀ L:List Row,(qG val L).length<=L.length
 |[]=>yQ _| r::L=>by
  (have:=gD val L;unfold qG at *;rw[ZX,alT53,fH];have h1:(if val r<0 then [(⟨r,zK (val r)⟩:Mult)] else []).length<=1:=by split <;> simp);omega
def Cl {q:Rat}:(zK q).neg=decide (q<0):=by have h:=Zz (zK q);rw[yD,Hb] at h;exact decide_eq_decide.2 h.symm
def Gr:Pg.funcs[14]?=some Tryz.f14:=by rw[vI];rfl
def D5 (s:Scp)(X:List R)(val:Row->Rat)(l':List Mult)(hb:Bnd6 s)(hv:s.q.valid=true)(hX:(X.length:Int)=s.q.g.vars) (ce:∀ r,r∈s.all->zH 42 [av (fA ((s.fm r).getD F.zero)),rlv X] (.tup [rv (zK (val r)),iV 0])) (cs:GS (qG val s.all) l') (hl':l'.length=(qG val s.all).length):zH 14 [sv s,rlv X] (x9 (l'.map Mult.row)):=by
 refine xB Gr rfl rfl rfl rfl rfl ?_;have c1:=UB s.q.g (hb.sz.q.g.mono (by decide));have c2:=mE s.q (hb.sz.q.mono (by decide));have c4:=DR s hb.sz hb.n hb.r hb.p hb.u;have c5:=λr=>HX s r (hb.sz.mono (by decide));have hl:=hb.l;have hvl:=gD val s.all;rw[if_pos (Sn hv)] at c1;rw[hv] at c2;obtain⟨FR,hFR⟩:∃ FR:Row->A,(λr=>fA ((s.fm r).getD F.zero))=FR:=⟨_,rfl⟩;replace c5:∀ r,zH 35 [sv s,rwv r] (.tup [av (FR r),zM ((s.fm r).isSome)]):=λr=>by rw[<-hFR];exact c5 r
 replace ce:∀ r,r∈s.all->zH 42 [av (FR r),rlv X] (.tup [rv (zK (val r)),iV 0]):=λr hr=>by rw[<-hFR];exact ce r hr
 have hst:∀ (i:Nat) r,s.all[i]?=some r->qG val (s.all.take (i+1))=qG val (s.all.take i)++(if val r<0 then [⟨r,zK (val r)⟩] else []):=λi r h=>by rw[rJ,h];show List.flatMap _ (_++[r])=_;rw[ZY];simp[qG]
 have hle:∀ i,(qG val (s.all.take i)).length<=1000:=λi=>by have:=gD val (s.all.take i);rw[xP] at this;omega
 have h0:qG val (s.all.take 0)=[]:=rfl;have hN:qG val (s.all.take s.all.length)=qG val s.all:=by rw[vV]
 generalize hVL:qG val=VL at *;clear hVL hFR hv hb;generalize s.fm=FM at *;generalize s.q.g.vars=V at *;generalize s.all=L at *;obtain⟨⟨⟨n,us,os⟩,⟨lo,hi,rows⟩,⟨gts,gc⟩⟩,path,lems⟩:=s;dsimp only at c1 c2 c4 c5;cbv;refine cA c2 ?_;cbv;refine GF rfl ?_;cbv;refine cA c1 ?_;cbv;refine xD (by rw[zB];exact hX) ?_;cbv;refine cA c4 ?_;clear c1 c2 c4;cbv;refine zY (σ:=Nat) (λi=>⟨[(1,rlv X),(2,.ptr 2 0),(5,zT 58 7 ((VL (L.take i)).length)),(29,x9 L),(30,iV L.length),(31,iV i)],[(2,.box [iV n,alv us,alv os,rlv lo,rlv hi,alv rows,tsv gts,zM gc.neg,nat gc.num,nat gc.den,dlv path,llv lems]),(58,zW 7 (enc mc (VL (L.take i))))]⟩)
  (λi=>i<=L.length) (λi=>L.length-i) 0 (xO _)
  (.trans (.le (ps':=⟨[(1,rlv X),(2,.ptr 2 0),(5,.nil),(29,x9 L),(30,iV L.length),(31,iV (((0:Nat):Int)))],[(2,.box [iV n,alv us,alv os,rlv lo,rlv hi,alv rows,tsv gts,zM gc.neg,nat gc.num,nat gc.den,dlv path,llv lems])]⟩) (by cbv;repeat' first|exact trivial|exact lR|exact zF (by (try dsimp only [zS] at *);rw[zB])|apply And.intro) (by cbv;repeat' first|exact trivial|exact lR|apply And.intro) rfl)
   (.trans (.adoptT 58 7 5 rfl rfl)
   (.le (by cbv;repeat' first|exact trivial|exact lR|exact zR rfl (by rw[h0];rfl)|apply And.intro) (by cbv;repeat' first|exact trivial|exact lR|exact zC (by rw[h0];rfl)|apply And.intro) rfl))) ?_
 intro i hi;cbv;refine zG (λh=>?_) (λh=>?_)
 ·have hlt:i<L.length:=om;obtain⟨r,hr⟩:=yB hlt;have c6:=c5 r;have c7:=ce r (yE hr);have hs1:=hst i r hr;have hl1:=hle i;have hng:(zK (val r)).neg=decide (val r<0):=Cl;obtain⟨⟨ats,acc⟩,hA⟩:∃ a,FR r=a:=⟨_,rfl⟩;rw[hA] at c6 c7;clear c5 hA ce hst hle;generalize (FM r).isSome=bs at *;generalize VL (L.take i)=XS at *;generalize val r=q at *;obtain⟨⟨xn,xu,xd⟩,hZ⟩:∃ Z,zK q=Z:=⟨_,rfl⟩;rw[hZ] at c7 hs1 hng;dsimp only at hng;clear hZ;cbv;refine xL hr k7 u6 ?_;cbv;refine cA c6 ?_;cbv;refine cA c7 ?_;cbv;refine wU rfl ?_;cbv;refine zZ (λe=>?_) (λe=>?_)
  ·(have hq:q<0:=of_decide_eq_true (hng.symm.trans e);rw[if_pos hq] at hs1;have htk:enc mc (VL (L.take (i+1)))=enc mc XS++zI [[iV r.k,iV r.i,iV r.lo,iV r.hi,zM xn,nat xu,nat xd]]:=by rw[hs1,<-z3];rfl);have hyl:(VL (L.take (i+1))).length=XS.length+1:=by rw[hs1,alT53];rfl
   cbv;refine rU ?_;cbv;refine xE RI rfl rfl rfl (by rw[zB]) rfl ⟨by simp[zI,y7]⟩ (zV (by simp[zI] <;> omega) (by simp[zI,zB];exact om)) rfl ?_;cbv;exact⟨zE om om,i+1,hlt,by show L.length-(i+1)<L.length-i;omega,.le (by cbv;repeat' first|exact trivial|exact lR|exact zR rfl (by rw[zB,hyl];rfl)|exact zF om|apply And.intro) (by cbv;repeat' first|exact trivial|exact lR|exact zC htk.symm|apply And.intro) rfl⟩
  ·(have hq:¬q<0:=λw=>by rw[decide_eq_true w] at hng;rw[hng] at e;cases e);rw[if_neg hq,vM] at hs1
   subst hs1;cbv;exact⟨zE om om,i+1,hlt,by show L.length-(i+1)<L.length-i;omega,wkZ⟩
 ·(have hil:i=L.length:=om;subst hil;rw[hN];clear ce c5 hst hle h0 hN hi h;have hl2:(VL L).length<=1000:=by omega);unfold GS at cs
  generalize VL L=XS at *;cbv;refine kB (λn=>match nqb n 1000000 with|true=>58|false=>n) (.refl _) rfl (by exact⟨lR,⟨rfl,trivial⟩,trivial⟩) cs ?_;cbv;refine zY (σ:=Nat) (λi=>⟨[(12,zT 72 4 i),(62,mlv l'),(63,iV l'.length),(64,iV i)],[(72,zW 4 (enc rwc ((l'.take i).map Mult.row)))]⟩)
   (λi=>i<=l'.length) (λi=>l'.length-i) 0 (xO _)
   (.trans (.le (ps':=⟨[(12,.nil),(62,zT 58 7 l'.length),(63,iV l'.length),(64,iV (((0:Nat):Int)))],[(58,zW 7 (enc mc l'))]⟩) (by cbv;repeat' first|exact trivial|exact lR|exact zR rfl hl'.symm|exact zF (by (try dsimp only [zS] at *);rw[hl'])|apply And.intro) okZ rfl)
    (.trans (.frz 58 rfl rfl (by cbv;repeat' first|exact trivial|exact z6 (by rw[zB];omega)|apply And.intro) (by cbv;repeat' first|exact trivial|apply And.intro))
    (.trans (.adoptT 72 4 12 rfl rfl)
    (.le (by cbv;repeat' first|exact trivial|exact lR|exact zU (by rw[vS,<-zB mc l',vV])|apply And.intro) okZ rfl)))) ?_
  intro i hi;cbv;refine zG (λh=>?_) (λh=>?_)
  ·(have hlt:i<l'.length:=om;obtain⟨m,hm⟩:=yB hlt;have htk:enc rwc ((l'.take (i+1)).map Mult.row)=enc rwc ((l'.take i).map Mult.row)++zI [rwc m.row]:=by rw[rJ,hm,qS,<-z3];rfl);have htl:((l'.take i).map Mult.row).length=i:=by rw[yH,xP];omega
   generalize (l'.take i).map Mult.row=XS at *;obtain⟨⟨mk,mi,ml,mh⟩,mcc⟩:=m;cbv;refine xL hm w5 x6 ?_;cbv;refine xE s9 rfl rfl rfl (by rw[zB,htl]) rfl ⟨by simp[zI,y7]⟩ (zV (by simp[zI] <;> omega) (by simp[zI,zB,htl];exact om)) rfl ?_;cbv;exact⟨zE om om,i+1,hlt,by show l'.length-(i+1)<l'.length-i;omega,.le (by cbv;repeat' first|exact trivial|exact lR|exact zR rfl (by rw[zB,htl];rfl)|exact zF om|apply And.intro) (by cbv;repeat' first|exact trivial|exact lR|exact zC htk.symm|apply And.intro) rfl⟩
  ·(have hil:i=l'.length:=om;subst hil;rw[vV];have hxl:(enc rwc (l'.map Mult.row)).length=l'.length:=by rw[zB,yH]);generalize enc rwc (l'.map Mult.row)=ZS at *
   cbv;refine Xu id (.frz 72 rfl rfl (by cbv;repeat' first|exact trivial|exact z6 (by rw[hxl];omega)|apply And.intro) (by cbv;repeat' first|exact trivial|apply And.intro)) rfl (by exact trivial) (by rfl) (by exact trivial) ?_;cbv;exact zU (by rw[vS,<-hxl,vV])
def BC (r:Row):Bool:=decide (r.k=1\/r.k=2\/r.k=5\/r.k=8\/r.k=10\/r.k=13)
def PM (r:Row):zH 64 [rwv r] (zM (BC r)):=by
 refine sF Tryz.f64 ?_;obtain⟨b,hb⟩:=ex (BC r);have hb':decide (r.k=1\/r.k=2\/r.k=5\/r.k=8\/r.k=10\/r.k=13)=b:=hb;rw[hb];clear hb;obtain⟨k,i,l,h⟩:=r;dsimp only at hb';cbv;refine zG (λh1=>?_) (λh1=>?_);{cbv;refine xD (by assumption) ?_;cbv;(refine rC ?_;cbv);exact yN (by rw[<-hb'];exact decide_eq_true (by exact om))};cbv;refine zG (λh2=>?_) (λh2=>?_);{cbv;refine xD (by assumption) ?_;cbv;(refine rC ?_;cbv);exact yN (by rw[<-hb'];exact decide_eq_true (by exact om))};cbv;refine zG (λh3=>?_) (λh3=>?_);{cbv;refine xD (by assumption) ?_;cbv;(refine rC ?_;cbv);exact yN (by rw[<-hb'];exact decide_eq_true (by exact om))};cbv;refine zG (λh4=>?_) (λh4=>?_);{cbv;refine xD (by assumption) ?_;cbv;(refine rC ?_;cbv);exact yN (by rw[<-hb'];exact decide_eq_true (by exact om))};cbv;refine zG (λh5=>?_) (λh5=>?_);{cbv;refine xD (by assumption) ?_;cbv;(refine rC ?_;cbv);exact yN (by rw[<-hb'];exact decide_eq_true (by exact om))};cbv;refine zG (λh6=>?_) (λh6=>?_)
 ·cbv
  (refine rC ?_;cbv)
  exact yN (by rw[<-hb'];exact decide_eq_true (by exact om))
 ·cbv
  (refine rC ?_;cbv)
  exact zO (by rw[<-hb'];exact decide_eq_false (by exact om))
def iK (L:List Row) (du:List Rat):List Mult:=List.zipWith (λr q=>⟨r,zK q⟩) L du
def Dl:ty 66=.sli 7 88 [iV 0,iV 0,iV 0,iV 0,.ff,.nil,.nil]:=by cbv
def PK (L:List Row)(du:List Rat)(hl:du.length<=L.length)(h12:du.length<=12)(hf:∀ q,q∈du->Fits (2^20) q):zH 67 [x9 L,qlv du] (mlv (mR (kD (iK L du)).2)):=by
 refine sF Tryz.f67 ?_;have hpl:(iK L du).length=du.length:=by unfold iK;rw[List.length_zipWith];omega
 have hg:∀ (i:Nat) r q,L[i]?=some r->du[i]?=some q->(iK L du)[i]?=some ⟨r,zK q⟩:=λi r q h1 h2=>by unfold iK;rw[List.getElem?_zipWith,h1,h2]
 have cc:=PH (iK L du) oM ⟨by omega,λm hm=>by obtain⟨i,hi⟩:=YG hm;have hid:i<(iK L du).length:=(w8.1 hi).1;obtain⟨r,hr⟩:=yB (l:=L) (i:=i) oM;obtain⟨q,hq⟩:=yB (l:=du) (i:=i) oM;rw[hg i r q hr hq] at hi;cases hi;exact z5 (hf q (yE hq))⟩;generalize hG:(mR (kD (iK L du)).2)=G at *;generalize (kD (iK L du)).1=e0 at *;generalize iK L du=P at *;clear hG hf;cbv;refine zY (σ:=Nat) (λi=>⟨[(0,x9 L),(5,zT 23 7 i),(8,qlv du),(9,iV du.length),(10,iV i)],[(23,zW 7 (enc mc (P.take i)))]⟩)
  (λi=>i<=du.length) (λi=>du.length-i) 0 (xO _)
  (.trans (.le (ps':=⟨[(0,x9 L),(5,.nil),(8,qlv du),(9,iV du.length),(10,iV (((0:Nat):Int)))],[]⟩) (by cbv;repeat' first|exact trivial|exact lR|exact zF (by (try dsimp only [zS] at *);rw[zB])|apply And.intro) trivial rfl)
   (.trans (.adoptT 23 7 5 rfl rfl) (wkZ))) ?_
 intro i hi;cbv;refine zG (λh=>?_) (λh=>?_)
 ·(have hlt:i<du.length:=om;obtain⟨r,hr⟩:=yB (l:=L) (i:=i) oM;obtain⟨q,hq⟩:=yB hlt;have hp:=hg i r q hr hq;have htl:(P.take i).length=i:=by rw[xP];omega);have htk:enc mc (P.take (i+1))=enc mc (P.take i)++enc mc [⟨r,zK q⟩]:=by rw[rJ,hp,<-z3];rfl
  (generalize P.take i=XS at *;clear hg hp;obtain⟨⟨xn,xu,xd⟩,hZ⟩:∃ Z,zK q=Z:=⟨_,rfl⟩;rw[hZ] at htk;have hq':(du.map zK)[i]?=some ⟨xn,xu,xd⟩:=by rw[jJ,hq,<-hZ];rfl);have hqe:enc cq du=enc rc (du.map zK):=by unfold enc;rw[QG];rfl
  clear hZ hq;dsimp only [qlv];rw[hqe];generalize du.map zK=DU at *;cbv;refine xL hq' jW cH ?_;cbv;refine zP 8 (by cbv) ?_;cbv;refine xL hr k7 u6 ?_;cbv;refine xE Dl rfl rfl rfl (by rw[zB,htl]) rfl ⟨by simp[zI,y7]⟩ (zV (by simp[zI] <;> omega) (by simp[zI,zB,htl];exact om)) rfl ?_;cbv;exact⟨zE om om,i+1,hlt,by show du.length-(i+1)<du.length-i;omega,.le (by cbv;repeat' first|exact trivial|exact lR|exact zR rfl (by rw[zB,htl];rfl)|exact zU hqe.symm|exact zF om|apply And.intro) (by cbv;repeat' first|exact trivial|exact lR|exact zC htk.symm|apply And.intro) rfl⟩
 ·(have hil:i=P.length:=by exact om);subst hil
  rw[vV];have hxl:(enc mc P).length=P.length:=zB _ _;cbv;refine j4 (.trans (.frz 23 rfl rfl (by cbv;repeat' first|exact trivial|exact z6 (by rw[hxl];omega)|apply And.intro) (by cbv;repeat' first|exact trivial|apply And.intro)) (.le (ps':=⟨[(26,mlv P)],[]⟩) (by cbv;repeat' first|exact trivial|exact zU (by rw[vS,<-hxl,vV])|apply And.intro) trivial rfl)) rfl okA cc rfl ?_;cbv;exact rA
end Go.Proofs.YtboocdbmnfjomaaGreat
