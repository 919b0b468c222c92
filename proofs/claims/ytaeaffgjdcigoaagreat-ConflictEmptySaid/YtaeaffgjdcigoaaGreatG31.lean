/- A part of the proof: EvE, KpS, KpF, KcO, KpA, KpB, KpC, KpD, KcE. -/
import Derived.Test.YtaeaffgjdcigoaaGreatG43
import Derived.Maps.Own
import Derived.Lib.SlKeysI
import Derived.Maps.Range
import Derived.Test.YtaeaffgjdcigoaaGreatG44
import Derived.Test.YtaeaffgjdcigoaaGreatG25
import Derived.Test.YtaeaffgjdcigoaaGreatG22
import Derived.Test.YtaeaffgjdcigoaaGreatG20
import Derived.Test.YtaeaffgjdcigoaaGreatG21
import Derived.Test.YtaeaffgjdcigoaaGreatG24
set_option linter.all false
namespace Go.Proofs.YtaeaffgjdcigoaaGreat
open Go
set_option maxRecDepth 100000
set_option maxHeartbeats 4000000
def mK (x:FQry) (l:List Rat) (i:Int):Rat:=((x.g.us[i.toNat]?).map λf=>f.at (xr (vW x.g.us l))).getD 0
def WF (x:FQry) (d:Dec) (l:List Rat):Bool :=
 d.fits x.q&&(if d.k=3 then decide (0<=wK (xr l d.i) d.x.q) else if d.k=4 then decide (wK (xr l d.i) d.x.q<=0) else if d.k=1 then decide (0<=z3 (mK x l d.i)) else decide (z3 (mK x l d.i)<=0))
structure InpOk (x:FQry) (l:List Rat):Prop where
 len:l.length=x.g.n
 fit:∀ q,q∈l->Fits 20 q
def An {x:FQry}{d:Dec}(h:d.fits x.q=true)(hk:d.k=3\/d.k=4):0<=d.i/\d.i<(x.g.n:Int):=by unfold Dec.fits at h;rw[if_neg oM,if_pos hk] at h;simp only[yK,decide_eq_true_eq] at h;exact h.1
def R7 (x:FQry) (path:List Dec) (l:List Rat):Bool:=Gm x.r l&&path.all λd=>WF x d l
def FT {a b:Rat}(h:0<=wK a b):b<=a:=by unfold wK at h;split at h <;> (try split at h) <;> grind
def JR {a b:Rat}(h:wK a b<=0):a<=b:=by unfold wK at h;split at h <;> (try split at h) <;> grind
def GP {a:Rat}(h:0<=z3 a):0<=a:=by unfold z3 at h;split at h <;> (try split at h) <;> grind
def CH {a:Rat}(h:z3 a<=0):a<=0:=by unfold z3 at h;split at h <;> (try split at h) <;> grind
def MW {x:FQry}{path:List Dec}{L:List Lem}{l:List Rat}(hx:x.small)(hok:x.ok)(hl:InpOk x l)(h:R7 x path l=true):Pt ⟨x.q,path,L⟩ (xr (vW x.g.us l)):=by
 unfold R7 Gm at h;simp only[yK] at h;obtain⟨⟨h1,h2⟩,h3⟩:=h;have hX:∀ i:Nat,i<x.g.n->xr (vW x.g.us l) i=xr l i:=λi hi=>by unfold xr;rw[mG,oD _ _ _ (by rw[hl.len];exact hi)]
 have hget:∀ i:Nat,i<x.g.n->∃ q,l[i]?=some q/\xr (vW x.g.us l) i=q:=λi hi=>by obtain⟨q,hq⟩:=zO (l:=l) (i:=i) (by rw[hl.len];exact hi);exact⟨q,hq,by rw[hX i hi];exact U2 hq⟩
 have hbl:=hx.r.bs;have hwu:=hok.us;have hun:∀ (i:Nat) f,x.g.us[i]?=some f->xr (vW x.g.us l) ((x.g.n:Int)+i)=iE (f.at (xr (vW x.g.us l))) 0:=λi f hf=>by
  (have:=VX (us:=x.g.us) (l:=l) (λi f h=>by rw[hl.len];exact hwu i f h) hf;rw[hl.len] at this;have e:(x.g.n:Int)+i=((x.g.n+i:Nat):Int):=by omega);rw[e]
  exact U2 this
 have hus:∀ (i:Nat) p,x.q.g.us[i]?=some p->∃ f,x.g.us[i]?=some f/\p=fA f:=λi p hp=>by
  have hp':(x.g.us.map fA)[i]?=some p:=hp;rw[uY] at hp';cases hf:x.g.us[i]? with
  |none=>rw[hf] at hp';cases hp'
  |some f=>rw[hf] at hp';cases hp';exact⟨f,rfl,rfl⟩
 have hhold:∀ d,d∈path->WF x d l=true:=λd hd=>gG.1 h3 d hd;have hpre:∀ (i:Nat) p,x.q.g.us[i]?=some p->mK x l i=p.f.at (xr (vW x.g.us l)):=λi p hp=>by obtain⟨f,hf,rfl⟩:=hus i p hp;unfold mK;rw[mG,hf,qP];rfl
 refine⟨λi y hy=>?_,λi y hy=>?_,λi f hf=>?_,λi p hp=>?_,λd hd hf hk=>?_,λd hd hf hk=>?_,λd hd hf hk i p hi hp=>?_,λd hd hf hk i p hi hp=>?_⟩
 ·have hy':(x.r.bs.map λb=>zG b.1)[i]?=some y:=hy;rw[uY] at hy';cases hb:x.r.bs[i]? with
  |none=>rw[hb] at hy';cases hy'
  |some b =>
   rw[hb] at hy';cases hy';have hlt:=(xP.1 hb).1;obtain⟨q,hq,hqx⟩:=hget i oM;rw[hqx,zV];exact FT (Y2 h1 i b q hb hq).1
 ·have hy':(x.r.bs.map λb=>zG b.2)[i]?=some y:=hy;rw[uY] at hy';cases hb:x.r.bs[i]? with
  |none=>rw[hb] at hy';cases hy'
  |some b =>
   rw[hb] at hy';cases hy';have hlt:=(xP.1 hb).1;obtain⟨q,hq,hqx⟩:=hget i oM;rw[hqx,zV];exact JR (Y2 h1 i b q hb hq).2
 ·have hf':(x.r.rows.map fA)[i]?=some f:=hf;rw[uY] at hf';cases hb:x.r.rows[i]? with
  |none=>rw[hb] at hf';cases hf'
  |some b =>
   rw[hb] at hf';cases hf';rw[qP];have hmem:=zX hb;have hw:=hok.rows b hmem;rw[<-hl.len] at hw;rw[Ch (us:=x.g.us) hw];unfold XM at h2;exact GP (of_decide_eq_true (gG.1 h2 b hmem))
 {obtain⟨f,hf,rfl⟩:=hus i p hp;have e:=hun i f hf;have e':x.q.g.n+(i:Int)=(x.g.n:Int)+i:=rfl;show 0<=xr _ (x.q.g.n+(i:Int))/\_<=xr _ (x.q.g.n+(i:Int))/\(xr _ (x.q.g.n+(i:Int))=0\/xr _ (x.q.g.n+(i:Int))=_);rw[e',e,qP];unfold iE;split <;> grind}
 ·(have hh:=hhold d hd;unfold WF at hh;rw[hf,yN,if_pos hk] at hh;obtain⟨g1,g2⟩:=An hf (.inl hk);have e:d.i=((d.i.toNat:Nat):Int):=by omega);have:=FT (of_decide_eq_true hh)
  rw[e] at this ⊢;rw[hX _ oM];exact this
 ·(have hh:=hhold d hd;unfold WF at hh;rw[hf,yN,if_neg oM,if_pos hk] at hh;obtain⟨g1,g2⟩:=An hf (.inr hk);have e:d.i=((d.i.toNat:Nat):Int):=by omega);have:=JR (of_decide_eq_true hh)
  rw[e] at this ⊢;rw[hX _ oM];exact this
 {have hh:=hhold d hd;unfold WF at hh;rw[hf,yN,if_neg oM,if_neg oM,if_pos hk,hi,hpre i p hp] at hh;exact GP (of_decide_eq_true hh)};{have hh:=hhold d hd;unfold WF at hh;rw[hf,yN,if_neg oM,if_neg oM,if_neg oM,hi,hpre i p hp] at hh;exact CH (of_decide_eq_true hh)}
def YR (x y:Int):Bool:=decide (x<=y)
def jY (ks:List Int):List Int:=ks.eraseDups.mergeSort YR
def X3 (ks:List Int):ks.eraseDups.Nodup:=by
 have key:∀ (n:Nat) (l:List Int),l.length<=n->l.eraseDups.Nodup:=by
  intro n;induction n with
  |zero=>grind| succ n ih =>
   intro l h;cases l with
   |nil=>simp| cons a r =>
    grind [List.mem_eraseDups]
 exact key _ ks (Nat.le_refl _)
def Dp {l l':List Int}(h:∀ x,x∈l↔x∈l')(h1:l.Nodup)(h2:l'.Pairwise (·<·)):l.mergeSort YR=l':=by
 have tr:∀ a b c:Int,YR a b=true->YR b c=true->YR a c=true:=λa b c h1 h2=>by simp only[YR,decide_eq_true_eq] at *;omega
 have to:∀ a b:Int,(YR a b || YR b a)=true:=λa b=>by simp only[YR,Bool.or_eq_true,decide_eq_true_eq];omega
 refine List.Perm.eq_of_pairwise (le:=λa b=>YR a b=true) (λa b _ _ h1 h2=>by simp only[YR,decide_eq_true_eq] at h1 h2;omega) (List.pairwise_mergeSort tr to l) (h2.imp λ{a b} h=>by simp only[YR,decide_eq_true_eq];omega) ((List.mergeSort_perm l _).trans ?_);exact (List.perm_ext_iff_of_nodup h1 (h2.imp λ{a b} h=>by omega)).2 h
def KG {ks l:List Int}(h:∀ x,x∈ks↔x∈l)(h2:l.Pairwise (·<·)):jY ks=l:=Dp (λx=>by simp_all) (X3 ks) h2
end Go.Proofs.YtaeaffgjdcigoaaGreat
namespace Go.Proofs.YtaeaffgjdcigoaaGreat
open Go Go.Maps WideElems Go.WideShapes
def DP {P:Program}{w:World}{k b n:Nat}{R:Value->Option (DataW Unit×List MemPlace)}{D:DataW Unit}{ks:List Int}(hk:P.underlying k=some (.int .i64))(hown:w.ownsMap P k R b n D) (hat:∀ x:Int,(Lit.int .i64 x).wf=true->∀ z:DataW Unit,D.atKey (.int .i64 x) z=if x∈ks then .lit (.bool true) else z) (hwf:∀ x,x∈ks->(Lit.int .i64 x).wf=true):ks.eraseDups.Perm (intKeys D)/\Maps.size D<=n:=by
 obtain⟨es,clock,hb,F,hn,rfl⟩:=hown;have hK:=Maps.int_keyed (P:=P) hk;have hks:=fit_keys F;have hap:=fit_apart hK F;have hP:((es.toList.map (rg P k R)).foldr DataW.insert []).Pairwise (λp q=>p.1≠q.1):=((sorted_perm _).pairwise_iff (λ{a b} (h:a.1≠b.1)=>h.symm)).2 hap;have hint:∀ p,p∈(es.toList.map (rg P k R)).foldr DataW.insert []->∃ x:Int,p.1=.int .i64 x/\(Lit.int .i64 x).wf=true:=λp hp=>by obtain⟨key,hkey⟩:=hks p (mem_sorted.1 hp);grind [Maps.keyOf_i64]
 refine⟨perm_intKeys hP (λp hp=>(hint p hp).imp λ_ h=>h.1) (X3 ks) (λx=>?_),?_⟩
 ·rw[List.mem_eraseDups];constructor;{intro hx;exact has_true_of_atKey (y:=.lit (.bool true)) λz=>by grind}
  ·(intro hx;refine Decidable.byContradiction λhnx=>?_;have hw:(Lit.int .i64 x).wf=true:=by grind [has_eq,Lit.sameKey]);have:=has_false_of_atKey (D:=.map ((es.toList.map (rg P k R)).foldr DataW.insert [])) (k:=.int .i64 x) λz=>by grind
   grind
 {show ((es.toList.map (rg P k R)).foldr DataW.insert []).length<=n;rw[(Go.WideShapes.sorted_perm _).length_eq];grind}
end Go.Proofs.YtaeaffgjdcigoaaGreat
namespace Go.Proofs.YtaeaffgjdcigoaaGreat
open Go Go.RowKit
set_option maxHeartbeats 4000000
set_option maxRecDepth 100000
def KP (ks:List Int)(hl:ks.length<2^40)(hb:∀ z,z∈ks->-9223372036854775808<=z/\z<=9223372036854775807):Sound 56 [.fn 125 [.ptr 1000001 0]] [(1000000,.mp 119 (λ_=>ks)),(1000001,.box [.mpv 1000000])] [] (.sl (λ_=>(jY ks).map λz=>[D.int .i64 z])) [(1000000,.mp 119 (λ_=>ks)),(1000001,.box [.mpv 1000000])] []:=by
 refine⟨λvals w=>enters_of (P:=Pg) (by rw[uZ];exact Tryz.func56) (by kernel_rfl) rfl vals w,?_⟩;intro w S β vals hS hO hsz hv;have hbo:=hO.at_ 1000001 _ (xQ _ (xV ..));obtain⟨Bx,vs,T,b1,b2,b3,b4⟩:=hbo;have hmo:=hO.at_ 1000000 _ (xV ..);obtain⟨b,k,e,Dm,m1,⟨m2,m3,m4,m5⟩,m6,m7⟩:=hmo;have hBx:Bx<w.heap.size:=(hO.un 1000001 _ Bx (xQ _ (xV ..)) (.inl b1)).2;have hr:=b4 0 (by decide);obtain⟨b',hb',hmv⟩:=lC hr;have ebb:b'=b:=by rw[m1] at hb';exact (vO hb').symm
 rw[ebb] at hmv;have hvv:=hv 0 (by decide);obtain⟨cvs,hf1,hf2,hf3⟩:=gP hvv;obtain⟨Bx',hβx,hpv⟩:=kF (hf3 0 (by decide));have exx:Bx'=Bx:=by rw[b1] at hβx;exact (vO hβx).symm
 rw[exx] at hpv;have hcv:cvs=#[.pointer (some ⟨Bx,0,none⟩)]:=by
  obtain⟨l⟩:=cvs
  match l,hf2,hpv with
  |[x],_,h=>simp at h;rw[h]
 have hvals:vals=#[.func (.func 125) #[] #[.pointer (some ⟨Bx,0,none⟩)]]:=by
  rw[hcv] at hf1;obtain⟨l⟩:=vals
  match l,hsz,hf1 with
  |[x],_,h=>simp at h;rw[h]
 have hcell:w.cell? ⟨Bx,0,none⟩=some (.map (some b)):=by
  obtain⟨l⟩:=vs
  match l,b3,hmv,b2 with
  |[x],_,h,h2=>simp at h;simp[World.cell?,h2,h]
 have ek:k=3:=by
  (have h1:Pg.underlying 119=some (.map 3 4):=by rw[uZ];kernel_rfl);rw[h1] at m2
  cases m2;rfl
 rw[ek] at m3 m6;have hwf:∀ x,x∈ks->(Lit.int .i64 x).wf=true:=λx hx=>by simp only[Lit.wf,yK,decide_eq_true_eq];exact hb x hx
 obtain⟨kp,kn'⟩:=DP m3 m6 m7 hwf;have kn:Maps.size Dm<=ks.length:=kn';have hgo:Calls Pg 56 vals w λe w'=>∃ (v:Value) (ss:List Int),e=.returned v/\ss.Perm (intKeys Dm) /\
   w'.ownsRow w.heap.size 3 1 v ss.length ((ss.mergeSort (λx y=>decide (x<=y))).map encZ)/\(v=.slice none 0 0↔ss=[])/\Below w.heap.size w w':=by
  rw[hvals];rw[uZ] at m6 ⊢;exact Tryz.sortedGo b ks.length Bx Dm _ w hBx hcell m6 (by unfold maxLen;omega) oM
 refine hgo.mono ?_;rintro e' w' ⟨v,ss,rfl,hp,hrow,hnil,hbl⟩;have hsort:ss.mergeSort (λx y=>decide (x<=y))=jY ks:=mergeSort_of_perm_i (hp.trans kp.symm);have hlen:(jY ks).length=ss.length:=by rw[<-hsort,List.length_mergeSort]
 rw[hsort] at hrow;obtain⟨g,hgw,hg⟩:∃ g,w.heap.size<=g/\(0<ss.length->∃ cap cur,v=.slice (some ⟨g,0,none⟩) ss.length cap/\w'.heap[g]?=some (.cells cur 3 (0,0))/\ss.length<=cap/\cur.toList.take ss.length=(jY ks).map encZ):=by rcases hrow.2 with⟨h1,h2⟩|⟨g,cap,cur,r1,r2,r3,r4,r5,r6,r7⟩;{exact⟨w.heap.size,yD _,λh=>absurd h oM⟩};{exact⟨g,r2,λ_=>⟨cap,cur,r1,r3,r4,by rw[t8] at r7;exact r7⟩⟩}
 have hld:Leads w S u7 w' (λb i=>S b i\/(b=g/\i<ss.length)):=⟨hbl.size,hbl.os,hbl.tape,hbl.output,λb hb _=>hbl.block b hb,
  λb vs T h=>⟨vs,by rw[hbl.block b (Array.getElem?_eq_some_iff.1 h).1];exact h,rfl⟩,
  λb i h=>by
   rcases h with h|⟨rfl,h⟩;{exact uR (hS b i h) hbl.size}
   ·obtain⟨cap,cur,_,h2,_⟩:=hg oM;exact (Array.getElem?_eq_some_iff.1 h2).1,
  λb i _ h=>.inl h,λb i hb _ h=>h.elim id (λh=>absurd hb oM)⟩
 refine⟨v,_,β,rfl,⟨hld.size,hld.os,hld.tape,hld.output,λb hb _=>hld.same b hb (λh=>h),hld.shape,hld.bnd,hld.sub,λb i hb _=>hld.old b i hb (λh=>h)⟩,?_,hO.go hld hS,rfl,λ_ _ _=>rfl,λn o b h h'=>.inr ⟨n,o,h,h'⟩⟩;refine .c rfl ?_;show RepD _ _ v (.sl ((jY ks).map λz=>[D.int .i64 z]));by_cases h0:0<ss.length
 ·(obtain⟨cap,cur,r1,r3,r4,r7⟩:=hg h0;have hel:((jY ks).map λz=>[D.int .i64 z]).length=ss.length:=by rw[y8,hlen]);rw[r1,<-hel]
  refine .sl (s:=1) (λi _=>.int .i64 ((jY ks).getD i 0)) (λh=>by rw[h] at hel;simp at hel;omega) oM (λi j h1 h2=>.inr ⟨rfl,by omega⟩) (λe he=>by obtain⟨z,_,rfl⟩:=xA.1 he;rfl) (λi j h1 h2=>?_) (λ_ _ _ _=>rfl) (λi j h1 h2=>?_)
  ·(have hj:j=0:=by omega);subst hj
   (have hi:i<ss.length:=by omega);have hcur:cur[i]?=some (.int .i64 ((jY ks).getD i 0)):=by have:=congrArg (λl=>l[i]?) r7;simp only[rT hi,uY] at this;rw[j2 (by omega:i<(jY ks).length)] at this;rw[<-Array.getElem?_toList,this,fK,j2 (by omega:i<(jY ks).length)];rfl
   simp[World.cell?,r3,hcur]
  ·(have hj:j=0:=by omega);subst hj
   (have hi:i<(jY ks).length:=by omega);have e1:((jY ks).map λz=>[D.int .i64 z]).getD i []=[D.int .i64 ((jY ks).getD i 0)]:=by simp only[fK,uY,j2 hi];rfl
   rw[e1];exact .int _ _
 {have hz:ss=[]:=j3 oM;have hk0:jY ks=[]:=j3 (by rw[hlen,hz];rfl);rw[hk0,hnil.2 hz];exact .sl0 _ _}
end Go.Proofs.YtaeaffgjdcigoaaGreat
namespace Go.Proofs.YtaeaffgjdcigoaaGreat
open Go
set_option maxRecDepth 100000
set_option maxHeartbeats 4000000
abbrev Bd:=R×List (Row×Rat)
def inG (q:Qry) (up:Bool) (i:Int):Nat->List Dec->Bd->Bd
 |_,[],b=>b| k,d::r,b=>inG q up i (k+1) r (if d.k=(if up=true then 4 else 3)/\d.i=i/\d.fits q=true/\0<(if up=true then -1 else 1)*wK d.x.q b.1.q then (d.x,[(⟨4,k,0,0⟩,1)]) else b)
def Scp.inB (s:Scp) (i:Int) (up:Bool):Bd :=
 inG s.q up i 0 s.path (if up=true then ((s.q.r.hi[i.toNat]?).getD R0,[(⟨2,i,0,0⟩,1)]) else ((s.q.r.lo[i.toNat]?).getD R0,[(⟨1,i,0,0⟩,1)]))
def Scp.vLo (s:Scp) (j:Int):Rat:=qT s.lems (s.best j).1
def Scp.vHi (s:Scp) (j:Int):Rat:=qT s.lems (s.best j).2
def Scp.leB (s:Scp) (j:Int):Bd :=
 if (s.best j).1=0\/z3 (s.vLo j)<=0 then (R0,[(⟨5,j,0,0⟩,1)]) else (zG (s.vLo j),[(⟨6,j,0,0⟩,1),(⟨11,j,(s.best j).1,0⟩,1)])
def Scp.offR (s:Scp) (j:Int):Row×Bool :=
 if s.dcd 2 j=true then (⟨10,j,0,0⟩,true) else (⟨10,j,0,(s.best j).2⟩,decide (0<(s.best j).2)&&decide (z3 (s.vHi j)<=0))
def Scp.onR (s:Scp) (j:Int):Row×Bool :=
 if s.dcd 1 j=true then (⟨8,j,0,0⟩,true) else (⟨8,j,(s.best j).1,0⟩,decide (0<(s.best j).1)&&decide (0<=z3 (s.vLo j)))
def Scp.moB (s:Scp) (j:Int):Option Bd :=
 if (s.offR j).2=true then some (R0,[((s.offR j).1,1)])
 else if (s.best j).2=0\/((s.onR j).2=false/\(s.best j).1=0) then none
 else if (s.onR j).2=true then some (zG (s.vHi j),[((s.onR j).1,1),(⟨12,j,0,(s.best j).2⟩,1)])
 else some (zG (s.vHi j),[(⟨12,j,0,(s.best j).2⟩,(1/(s.vHi j-s.vLo j))*s.vHi j),(⟨13,j,(s.best j).1,(s.best j).2⟩,1/(s.vHi j-s.vLo j))])
def Scp.ofB (s:Scp) (v:Int) (up:Bool):Option Bd :=
 if v<s.q.g.n then some (s.inB v up) else if up=true then s.moB (v-s.q.g.n) else some (s.leB (v-s.q.g.n))
def Scp.boxL (s:Scp):List (Int×Rat)->Rat->List (Row×Rat)->Option (Rat×List (Row×Rat))
 |[],a,l=>some (a,l)
 |t::r,a,l=>match s.ofB t.1 (decide (z3 t.2<0)) with
  |none=>none| some b=>s.boxL r (a+t.2*b.1.q) (xU l b.2 (vP t.2))
def Scp.box (s:Scp) (f:F):Option (Rat×List (Row×Rat)):=s.boxL f.ts f.c []
def iU (l u:Rat):Bool:=decide (z3 l<0)&&decide (0<z3 u)
def aX (l u:Rat):Bool:=iU l u&&decide (0<z3 (l+u))
def F.subst (f:F) (v:Int) (g:F):F:=F.add ⟨xK v (-(co f.ts v)) false f.ts,f.c⟩ (g.scale (co f.ts v))
def Scp.repl (s:Scp) (p:F) (c:Rat) (j:Int):Option (Row×F×Rat) :=
 if (s.onR j).2=true then some ((if 0<z3 c then ⟨6,j,0,0⟩ else (s.onR j).1),p,vP c)
 else if (s.offR j).2=true then some ((if z3 c<0 then (s.offR j).1 else ⟨5,j,0,0⟩),F.zero,vP c)
 else if 0<z3 c then
  (if 0<(s.best j).1/\0<(s.best j).2/\aX (s.vLo j) (s.vHi j)=true then some (⟨6,j,0,0⟩,p,vP c) else some (⟨5,j,0,0⟩,F.zero,vP c))
 else if (s.best j).1=0\/(s.best j).2=0 then none
 else some (⟨13,j,(s.best j).1,(s.best j).2⟩,(p.scale (s.vHi j/(s.vHi j-s.vLo j))).add (F.num (-(s.vLo j*s.vHi j)/(s.vHi j-s.vLo j))),vP c/(s.vHi j-s.vLo j))
def Scp.rep1 (s:Scp) (p:F) (j:Nat) (x:F×List (Row×Rat)):Option (F×List (Row×Rat)) :=
 if z3 (co x.1.ts (s.q.g.n+j))=0 then some x
 else match s.repl p (co x.1.ts (s.q.g.n+j)) j with
  |none=>none| some y=>some (x.1.subst (s.q.g.n+j) y.2.1,plMq x.2 y.1 y.2.2)
def Scp.backG (s:Scp):Nat->F×List (Row×Rat)->Option (F×List (Row×Rat))
 |0,x=>some x
 |j+1,x=>match s.q.g.us[j]? with
  |none=>none
  |some p=>match s.rep1 p.f j x with
   |none=>none| some y=>s.backG j y
def Scp.back (s:Scp) (f:F):Option (F×List (Row×Rat)):=s.backG s.q.g.us.length (f,[])
def oVq (o:Option (Rat×List (Row×Rat))):Rat:=(o.map Prod.fst).getD 0
def oL (o:Option (Rat×List (Row×Rat))):List (Row×Rat):=(o.map Prod.snd).getD []
def Scp.low (s:Scp) (f:F):Option (Rat×List (Row×Rat)):=(s.back f).map λg=>(oVq (s.box g.1),xU g.2 (oL (s.box g.1)) 1)
def Scp.dom (s:Scp) (n:Nat) (f:F):Option (Rat×List (Row×Rat)) :=
 if n=0\/(n=2/\(s.box f).isSome=true/\((s.low f).isSome=false\/0<=wK (oVq (s.box f)) (oVq (s.low f)))) then s.box f else s.low f
def Scp.strg (s:Scp) (u:Int) (up:Bool) (x:Rat):Bool :=
 if up=true then decide ((s.best u).2=0\/wK x (s.vHi u)<0) else decide ((s.best u).1=0\/0<wK x (s.vLo u))
def runL (s:Scp) (u:Int) (up:Bool) (o:Option (Rat×List (Row×Rat))):List Lem :=
 match o with
 |none=>[]| some v=>if s.strg u up (if up=true then -v.1 else v.1)=true then [⟨u,up,zG (if up=true then -v.1 else v.1),mR v.2⟩] else []
def runS (n:Nat) (s:Scp) (u:Int) (up:Bool) (f:F):Scp:=⟨s.q,s.path,s.lems++runL s u up (s.dom n f)⟩
def runG (n:Nat):List A->Nat->Scp->Scp
 |[],_,s=>s| p::r,j,s=>runG n r (j+1) (runS n (runS n s j false p.f) j true (p.f.scale (-1)))
def Scp.run (s:Scp) (n:Nat):Scp:=runG n s.q.g.us 0 s
def y5 (raw:List UInt8):Nat:=(raw.map UInt8.toNat).sum
def ext (raw:List UInt8):Scp:=if 0<y5 raw%3 then (fdS raw).bounded else fdS raw
def dvd (raw:List UInt8):Scp:=if y5 raw%5<3 then (ext raw).run (y5 raw%5) else ext raw
def Scp.opn (s:Scp) (j:Int):Bool:=!(s.dcd 1 j || (decide (0<(s.best j).1)&&decide (0<=z3 (s.vLo j)))) && !(s.dcd 2 j || (decide (0<(s.best j).2)&&decide (z3 (s.vHi j)<=0)))
def opnG (n:Nat):Nat->Nat->Scp->Scp
 |0,_,s=>s| k+1,j,s=>opnG n k (j+1) (if s.opn j=true/\(n+7*j)%4<2 then ⟨s.q,s.path++[⟨1+((n+7*j)%4:Nat),j,R0⟩],s.lems⟩ else s)
def dS (f:A) (x:Rat):A:=if x<0 then ⟨f.ts,zG (f.c.q-x)⟩ else f
def jF (raw:List UInt8):Scp :=
 let s1:=(dvd raw).run (y5 raw%3)
 let s2:=opnG (y5 raw) s1.q.g.us.length 0 s1
 if y5 raw%2=0 then s2.run 1 else s2
def tV (raw:List UInt8):Option (Rat×List (Row×Rat)):=(jF raw).dom 2 (jF raw).q.goal.f
def clo (raw:List UInt8):Scp:=⟨⟨(jF raw).q.g,(jF raw).q.r,dS (jF raw).q.goal (oVq (tV raw))⟩,(jF raw).path,(jF raw).lems⟩
def Zy (raw:List UInt8):List (Row×Rat):=oL (tV raw)
def Scp.fst (s:Scp) (kind unit:Int):Int:=wH (λd=>decide (d.k=kind)&&(decide (d.i=unit)&&d.fits s.q)) s.path
def Scp.rowD (s:Scp) (r:Row):Int :=
 if r.k=4 then r.i else if (r.k=7\/r.k=8)/\r.lo=0 then s.fst 1 r.i else if (r.k=9\/r.k=10)/\r.hi=0 then s.fst 2 r.i else -1
def bF (d:Int) (D:List Int):List Int:=if 0<=d then d::D else D
abbrev Ust:=List Int×List Int
def Scp.pfn (s:Scp) (n:Int):List Mult:=((s.lems[n.toNat]?).map Lem.pf).getD []
def dM (s:Scp) (U:List Mult->Ust->Ust) (n:Int) (st:Ust):Ust:=if 0<=n/\n<s.lems.length/\n∉st.2 then U (s.pfn n) (st.1,n::st.2) else st
def ZK (s:Scp) (U:List Mult->Ust->Ust):List Mult->Ust->Ust
 |[],st=>st| m::r,st=>ZK s U r (dM s U (m.row.hi-1) (dM s U (m.row.lo-1) (bF (s.rowD m.row) st.1,st.2)))
def s9 (s:Scp):Nat->List Mult->Ust->Ust
 |0=>ZK s (λ_ st=>st)| f+1=>ZK s (s9 s f)
def um (s:Scp) (M:List Int):Nat:=((List.range s.lems.length).filter λn:Nat=>decide ((n:Int)∉M)).length
def U7 {s:Scp}{M:List Int}{n:Int}(h0:0<=n)(h1:n<s.lems.length)(h:n∉M):um s (n::M)+1=um s M:=by
 unfold um;obtain⟨k,rfl⟩:∃ k:Nat,n=k:=⟨n.toNat,by omega⟩;have hk:k<s.lems.length:=by omega
 have key:∀ (l:List Nat),l.Nodup->k∈l->(l.filter λx:Nat=>decide ((x:Int)∉(k:Int)::M)).length+1=(l.filter λx:Nat=>decide ((x:Int)∉M)).length:=by
  intro l;induction l with
  |nil=>grind| cons a r ih =>
   intro hn hm;obtain⟨g1,g2⟩:=mI.1 hn;rcases yI.1 hm with rfl|hm;{grind [List.filter_congr]};grind
 grind
def usesM (s:Scp) (l:List Mult) (n:Int):Prop:=0<=n/\n<s.lems.length/\∃ m,m∈l/\(m.row.lo-1=n\/m.row.hi-1=n)
def usesD (s:Scp) (l:List Mult) (k:Int):Prop:=0<=k/\∃ m,m∈l/\s.rowD m.row=k
inductive Reach (s:Scp) (l:List Mult):Int->Prop
 |base {n} (h:usesM s l n):Reach s l n
 |step {k n} (h:Reach s l k) (h2:usesM s (s.pfn k) n):Reach s l n
def cH (s:Scp) (l:List Mult) (k:Int):Prop:=usesD s l k\/∃ n,Reach s l n/\usesD s (s.pfn n) k
theorem usesM.sub {s:Scp}{l l':List Mult}{n:Int}(h:usesM s l n)(hs:∀ m,m∈l->m∈l'):usesM s l' n:=by obtain⟨h1,h2,m,h3,h4⟩:=h;exact⟨h1,h2,m,hs m h3,h4⟩
theorem usesD.sub {s:Scp}{l l':List Mult}{n:Int}(h:usesD s l n)(hs:∀ m,m∈l->m∈l'):usesD s l' n:=by obtain⟨h1,m,h3,h4⟩:=h;exact⟨h1,m,hs m h3,h4⟩
theorem Reach.sub {s:Scp}{l l':List Mult}{n:Int}(h:Reach s l n)(hs:∀ m,m∈l->m∈l'):Reach s l' n:=by
 induction h with
 |base h=>exact .base (h.sub hs)| step _ h2 ih=>exact .step ih h2
theorem Reach.thru {s:Scp}{l:List Mult}{k n:Int}(hk:Reach s l k)(h:Reach s (s.pfn k) n):Reach s l n:=by
 induction h with
 |base h=>exact .step hk h| step _ h2 ih=>exact .step ih h2
theorem Reach.rng {s:Scp}{l:List Mult}{n:Int}(h:Reach s l n):0<=n/\n<s.lems.length:=by
 cases h with
 |base h=>exact⟨h.1,h.2.1⟩| step _ h=>exact⟨h.1,h.2.1⟩
structure Run (s:Scp) (l:List Mult) (a b:Ust):Prop where
 mM:∀ n,n∈a.2->n∈b.2
 mD:∀ k,k∈a.1->k∈b.1
 sM:∀ n,n∈b.2->n∈a.2\/Reach s l n
 sD:∀ k,k∈b.1->k∈a.1\/cH s l k
 cM:∀ n,usesM s l n->n∈b.2
 cD:∀ k,usesD s l k->k∈b.1
 nM:∀ k,k∈b.2->k∈a.2\/((∀ n,usesM s (s.pfn k) n->n∈b.2)/\∀ n,usesD s (s.pfn k) n->n∈b.1)
def nJ {s:Scp}{U:List Mult->Ust->Ust}{f:Nat}(hU:∀ l a,um s a.2<f->Run s l a (U l a)){n:Int}{a:Ust}(hf:um s a.2<=f):(∀ k,k∈a.2->k∈(dM s U n a).2)/\(∀ k,k∈a.1->k∈(dM s U n a).1)/\(0<=n->n<s.lems.length->n∈(dM s U n a).2) /\ (∀ k,k∈(dM s U n a).2->k∈a.2\/(0<=n/\n<s.lems.length/\(k=n\/Reach s (s.pfn n) k)))/\(∀ k,k∈(dM s U n a).1->k∈a.1\/(0<=n/\n<s.lems.length/\cH s (s.pfn n) k)) /\ (∀ k,k∈(dM s U n a).2->k∈a.2\/((∀ j,usesM s (s.pfn k) j->j∈(dM s U n a).2)/\∀ j,usesD s (s.pfn k) j->j∈(dM s U n a).1)):=by
 unfold dM;split
 ·rename_i h;obtain⟨h0,h1,h2⟩:=h;have hu:=U7 h0 h1 h2;have R:=hU (s.pfn n) (a.1,n::a.2) (by grind);refine⟨λk hk=>R.mM k (xQ _ hk),λk hk=>R.mD k hk,λ_ _=>R.mM n xV,λk hk=>?_,λk hk=>?_,λk hk=>?_⟩
  ·rcases R.sM k hk with g|g
   all_goals grind
  ·rcases R.sD k hk with g|g
   all_goals grind
  {rcases R.nM k hk with g|g;{rcases yI.1 g with rfl|g;{exact .inr ⟨R.cM,R.cD⟩};grind};grind}
 grind
def oF {s:Scp}{M M':List Int}(h:∀ n,n∈M->n∈M'):um s M'<=um s M:=by unfold um;rw[<-List.countP_eq_length_filter,<-List.countP_eq_length_filter];exact List.countP_mono_left λx _ hx=>by grind
def Xm {s:Scp}{U:List Mult->Ust->Ust}{f:Nat}(hU:∀ l a,um s a.2<f->Run s l a (U l a)):∀ (l:List Mult) (a:Ust),um s a.2<=f->Run s l a (ZK s U l a)
 |[],a,_=>⟨λ_ h=>h,λ_ h=>h,λ_ h=>.inl h,λ_ h=>.inl h,λn h=>by obtain⟨_,_,m,h,_⟩:=h;grind,λn h=>by obtain⟨_,m,h,_⟩:=h;grind,λ_ h=>.inl h⟩| m::r,a,hf=>by
  (unfold ZK;obtain⟨b,hb⟩:∃ b:Ust,b=(bF (s.rowD m.row) a.1,a.2):=⟨_,rfl⟩;have b1:∀ k,k∈a.1->k∈b.1:=λk hk=>by grind [bF]);have b2:b.2=a.2:=by rw[hb]
  have b3:∀ k,k∈b.1->k∈a.1\/(0<=k/\s.rowD m.row=k):=λk hk=>by rw[hb] at hk;unfold bF at hk;grind
  (have b4:0<=s.rowD m.row->s.rowD m.row∈b.1:=λh=>by rw[hb];unfold bF;grind);rw[<-hb]
  (obtain⟨c,hc⟩:=ex (dM s U (m.row.lo-1) b);obtain⟨c1,c2,c3,c4,c5,c6⟩:=nJ hU (n:=m.row.lo-1) (a:=b) (by grind);rw[hc] at c1 c2 c3 c4 c5 c6 ⊢;obtain⟨d,hd⟩:=ex (dM s U (m.row.hi-1) c);have ucb:um s c.2<=f:=vR (oF λn hn=>c1 n (by grind)) hf;obtain⟨d1,d2,d3,d4,d5,d6⟩:=nJ hU (n:=m.row.hi-1) (a:=c) ucb;rw[hd] at d1 d2 d3 d4 d5 d6 ⊢;have R:=Xm hU r d (vR (oF d1) ucb);have rb:∀ {n},Reach s r n->Reach s (m::r) n:=λh=>h.sub λx hx=>xQ _ hx;have rbD:∀ {n},cH s r n->cH s (m::r) n:=λh=>by rcases h with h|⟨k,h1,h2⟩;{exact .inl (h.sub λx hx=>xQ _ hx)};{exact .inr ⟨k,rb h1,h2⟩});have lo:0<=m.row.lo-1->m.row.lo-1<s.lems.length->Reach s (m::r) (m.row.lo-1):=λh1 h2=>.base ⟨h1,h2,m,xV,.inl rfl⟩;have hi:0<=m.row.hi-1->m.row.hi-1<s.lems.length->Reach s (m::r) (m.row.hi-1):=λh1 h2=>.base ⟨h1,h2,m,xV,.inr rfl⟩;have thD:∀ {k n},Reach s (m::r) k->cH s (s.pfn k) n->cH s (m::r) n:=λh g=>by rcases g with g|⟨j,g1,g2⟩;{exact .inr ⟨_,h,g⟩};{exact .inr ⟨j,h.thru g1,g2⟩}
  refine⟨λn hn=>R.mM n (d1 n (c1 n (by grind))),λk hk=>R.mD k (d2 k (c2 k (b1 k hk))),λn hn=>?_,λk hk=>?_,λn hn=>?_,λk hk=>?_,λk hk=>?_⟩;{rcases R.sM n hn with g|g;{rcases d4 n g with g|⟨g1,g2,g3⟩;{rcases c4 n g with g|⟨g1,g2,g3⟩;{grind};{rcases g3 with rfl|g3;{grind};{exact .inr ((lo g1 g2).thru g3)}}};{rcases g3 with rfl|g3;{grind};{exact .inr ((hi g1 g2).thru g3)}}};grind};{rcases R.sD k hk with g|g;{rcases d5 k g with g|⟨g1,g2,g3⟩;{rcases c5 k g with g|⟨g1,g2,g3⟩;{rcases b3 k g with g|⟨g1,g2⟩;{grind};{exact .inr (.inl ⟨g1,m,xV,g2⟩)}};grind};grind};grind};{obtain⟨g1,g2,x,g3,g4⟩:=hn;rcases yI.1 g3 with rfl|g3;{rcases g4 with rfl|rfl;{exact R.mM _ (d1 _ (c3 g1 g2))};{exact R.mM _ (d3 g1 g2)}};{exact R.cM n ⟨g1,g2,x,g3,g4⟩}};{obtain⟨g1,x,g3,g4⟩:=hk;rcases yI.1 g3 with rfl|g3;{subst g4;exact R.mD _ (d2 _ (c2 _ (b4 g1)))};{exact R.cD k ⟨g1,x,g3,g4⟩}};{rcases R.nM k hk with g|g;{rcases d6 k g with g|g;{rcases c6 k g with g|g;{grind};{exact .inr ⟨λj hj=>R.mM j (d1 j (g.1 j hj)),λj hj=>R.mD j (d2 j (g.2 j hj))⟩}};{exact .inr ⟨λj hj=>R.mM j (g.1 j hj),λj hj=>R.mD j (g.2 j hj)⟩}};grind}
def mT (s:Scp):∀ (f:Nat) (l:List Mult) (a:Ust),um s a.2<=f->Run s l a (s9 s f l a)
 |0,l,a,h=>Xm (f:=0) (λ_ _ h=>absurd h oM) l a h| f+1,l,a,h=>Xm (f:=f+1) (λl a h=>mT s f l a oM) l a h
def Kx {s:Scp}{l:List Mult}:(∀ n,n∈(s9 s s.lems.length l ([],[])).2↔Reach s l n)/\∀ k,k∈(s9 s s.lems.length l ([],[])).1↔cH s l k:=by
 have R:=mT s s.lems.length l ([],[]) (by grind [um]);have hM:∀ n,Reach s l n->n∈(s9 s s.lems.length l ([],[])).2:=λn h=>by
  induction h with
  |base h=>exact R.cM _ h| step _ h2 ih =>
   rcases R.nM _ ih with g|g
   all_goals grind
 refine⟨λn=>⟨λh=>(R.sM n h).resolve_left (by simp),hM n⟩,λk=>⟨λh=>(R.sD k h).resolve_left (by simp),λh=>?_⟩⟩;rcases h with h|⟨n,h1,h2⟩;{exact R.cD k h}
 ·rcases R.nM _ (hM n h1) with g|g
  all_goals grind
def kM (l:List Bool) (k:Int):List Bool:=if 0<=k/\k<l.length then l.set k.toNat true else l
abbrev Mst:=List Bool×List Bool
def rL (s:Scp):List Mult->Mst->Mst
 |[],st=>st| m::r,st=>rL s r (kM st.1 (s.rowD m.row),kM (kM st.2 (m.row.lo-1)) (m.row.hi-1))
def nH (s:Scp):Nat->Mst->Mst
 |0,st=>st| n+1,st=>nH s n (if st.2.getD n false=true then rL s (s.pfn n) st else st)
def Scp.marks (s:Scp) (l:List Mult):Mst:=nH s s.lems.length (rL s l (List.replicate s.path.length false,List.replicate s.lems.length false))
theorem cW (l:List Bool)(k:Int):(kM l k).length=l.length:=by grind [kM]
def XC {l:List Bool}{k:Int}{j:Nat}(hj:j<l.length):(kM l k).getD j false=true↔l.getD j false=true\/k=j:=by grind [kM]
def lM (s:Scp):∀ (l:List Mult) (st:Mst),(rL s l st).1.length=st.1.length/\(rL s l st).2.length=st.2.length
 |[],st=>⟨rfl,rfl⟩| m::r,st=>by have:=lM s r (kM st.1 (s.rowD m.row),kM (kM st.2 (m.row.lo-1)) (m.row.hi-1));grind [rL,cW]
def ZX (s:Scp):∀ (l:List Mult) (st:Mst),(∀ j,j<st.1.length->((rL s l st).1.getD j false=true↔st.1.getD j false=true\/usesD s l j)) /\ (st.2.length=s.lems.length->∀ j,j<st.2.length->((rL s l st).2.getD j false=true↔st.2.getD j false=true\/usesM s l j))
 |[],st=>⟨λj _=>⟨.inl,λh=>h.elim id λ⟨_,m,h,_⟩=>absurd h (by simp)⟩,λ_ j _=>⟨.inl,λh=>h.elim id λ⟨_,_,m,h,_⟩=>absurd h (by simp)⟩⟩| m::r,st=>by obtain⟨h1,h2⟩:=ZX s r (kM st.1 (s.rowD m.row),kM (kM st.2 (m.row.lo-1)) (m.row.hi-1));unfold rL;constructor;{intro j hj;rw[h1 j (by grind [cW]),XC hj];constructor;{rintro ((h|h)|⟨h0,x,hx,he⟩);{grind};{exact .inr ⟨by omega,m,xV,h⟩};{exact .inr ⟨h0,x,xQ _ hx,he⟩}};{rintro (h|⟨h0,x,hx,he⟩);{grind};{rcases yI.1 hx with rfl|hx;{omega};{exact .inr ⟨h0,x,hx,he⟩}}}};{intro hl j hj;rw[h2 (by grind [cW]) j (by grind [cW]),XC (by grind [cW]),XC hj];constructor;{rintro (((h|h)|h)|⟨h0,h0',x,hx,he⟩);{grind};{exact .inr ⟨by omega,by omega,m,xV,.inl h⟩};{exact .inr ⟨by omega,by omega,m,xV,.inr h⟩};{exact .inr ⟨h0,h0',x,xQ _ hx,he⟩}};{rintro (h|⟨h0,h0',x,hx,he⟩);{grind};{rcases yI.1 hx with rfl|hx;{omega};{exact .inr ⟨h0,h0',x,hx,he⟩}}}}
def Scp.backs (s:Scp):Prop:=∀ (n:Nat) m,s.lems[n]?=some m->∀ x,x∈m.pf->x.row.lo<=n/\x.row.hi<=n
def Gu {s:Scp}(h:s.backs){k n:Int}(hk:0<=k)(hu:usesM s (s.pfn k) n):n<k:=by
 obtain⟨_,_,m,hm,he⟩:=hu;unfold Scp.pfn at hm;cases hx:s.lems[k.toNat]? with
 |none=>grind| some y =>
  rw[hx] at hm;have:=h k.toNat y hx m hm;omega
def nG {s:Scp}(hb:s.backs){l:List Mult}:∀ (n:Nat) (st:Mst),n<=s.lems.length->st.1.length=s.path.length->st.2.length=s.lems.length ->(∀ j:Nat,j<s.lems.length->st.2.getD j false=true->Reach s l j)->(∀ j:Nat,j<s.path.length->st.1.getD j false=true->cH s l j) ->(∀ j:Nat,j<s.lems.length->usesM s l j->st.2.getD j false=true)->(∀ j:Nat,j<s.path.length->usesD s l j->st.1.getD j false=true) ->(∀ k:Nat,n<=k->k<s.lems.length->st.2.getD k false=true->(∀ j:Nat,usesM s (s.pfn k) j->st.2.getD j false=true)/\∀ j:Nat,j<s.path.length->usesD s (s.pfn k) j->st.1.getD j false=true) ->(nH s n st).1.length=s.path.length/\(nH s n st).2.length=s.lems.length/\(∀ j:Nat,j<s.lems.length->((nH s n st).2.getD j false=true↔Reach s l j))/\∀ j:Nat,j<s.path.length->((nH s n st).1.getD j false=true↔cH s l j)
 |0,st,hn,l1,l2,a1,a2,a3,a4,a5=>by
  have hM:∀ z:Int,Reach s l z->∀ j:Nat,z=j->j<s.lems.length->st.2.getD j false=true:=λz h=>by
   induction h with
   |base h=>grind| step hk h2 ih =>
    intro j e hj;subst e;obtain⟨g1,g2⟩:=hk.rng;rename_i k;obtain⟨k',rfl⟩:∃ k':Nat,k=k':=⟨k.toNat,by omega⟩;grind
  refine⟨l1,l2,λj hj=>⟨a1 j hj,λh=>hM _ h j rfl hj⟩,λj hj=>⟨a2 j hj,λh=>?_⟩⟩;rcases h with h|⟨k,h1,h2⟩;{exact a4 j hj h};{obtain⟨g1,g2⟩:=h1.rng;obtain⟨k',rfl⟩:∃ k':Nat,k=k':=⟨k.toNat,by omega⟩;exact (a5 k' (yU _) oM (hM _ h1 k' rfl oM)).2 j hj h2}
 |n+1,st,hn,l1,l2,a1,a2,a3,a4,a5=>by
  unfold nH;by_cases hm:st.2.getD n false=true
  ·rw[if_pos hm];obtain⟨g1,g2⟩:=ZX s (s.pfn n) st;obtain⟨k1,k2⟩:=lM s (s.pfn n) st;have g2:=g2 l2;have hr:=a1 n oM hm;refine nG hb n _ oM oM oM (λj hj h=>?_) (λj hj h=>?_) (λj hj h=>?_) (λj hj h=>?_) (λk hk hk2 h=>?_);{rcases (g2 j oM).1 h with h|h;{grind};{exact .step hr h}};{rcases (g1 j oM).1 h with h|h;{grind};{exact .inr ⟨n,hr,h⟩}};{grind};{grind}
   ·by_cases e:k=n;{subst e;exact⟨λj hj=>(g2 j (by have:=hj.2.1;omega)).2 (.inr hj),λj hj hu=>(g1 j oM).2 (.inr hu)⟩}
    ·(have hkm:st.2.getD k false=true:=by rcases (g2 k oM).1 h with h|h;{exact h};{have:=Gu hb oM h;omega});obtain⟨q1,q2⟩:=a5 k oM hk2 hkm;exact⟨λj hj=>(g2 j (by have:=hj.2.1;omega)).2 (.inl (q1 j hj)),λj hj hu=>(g1 j oM).2 (.inl (q2 j hj hu))⟩
  {rw[if_neg hm];exact nG hb n st oM l1 l2 a1 a2 a3 a4 λk hk hk2 h=>by by_cases e:k=n;{grind};{exact a5 k oM hk2 h}}
def tL {s:Scp}(hb:s.backs)(l:List Mult):(s.marks l).1.length=s.path.length/\(s.marks l).2.length=s.lems.length/\(∀ j:Nat,j<s.lems.length->((s.marks l).2.getD j false=true↔Reach s l j))/\∀ j:Nat,j<s.path.length->((s.marks l).1.getD j false=true↔cH s l j):=by
 have rep:∀ (n j:Nat),¬((List.replicate n false).getD j false=true):=λn j=>by grind
 obtain⟨g1,g2⟩:=ZX s l (List.replicate s.path.length false,List.replicate s.lems.length false);obtain⟨k1,k2⟩:=lM s l (List.replicate s.path.length false,List.replicate s.lems.length false);simp only[Da] at g1 g2 k1 k2;have g2:=g2 trivial;exact nG hb _ _ (yD _) k1 k2 (λj hj h=>.base (((g2 j hj).1 h).resolve_left (rep _ _))) (λj hj h=>.inl (((g1 j hj).1 h).resolve_left (rep _ _))) (λj hj h=>(g2 j hj).2 (.inr h)) (λj hj h=>(g1 j hj).2 (.inr h)) (λk h1 h2=>absurd h1 oM)
def wN (l:List Bool):List Int:=((List.range l.length).filter λi=>l.getD i false).map λi:Nat=>(i:Int)
def jL {l:List Bool}{z:Int}:z∈wN l↔∃ j:Nat,z=j/\j<l.length/\l.getD j false=true:=by unfold wN;grind
def Zn (l:List Bool):(wN l).Pairwise (·<·):=by unfold wN;refine List.pairwise_map.2 ((List.pairwise_lt_range.filter _).imp λ{a b} h=>by omega)
def Sn {s:Scp}(hb:s.backs){l:List Mult}(hd:∀ k,cH s l k->k<s.path.length):jY (s9 s s.lems.length l ([],[])).1=wN (s.marks l).1/\jY (s9 s s.lems.length l ([],[])).2=wN (s.marks l).2:=by
 obtain⟨m1,m2,m3,m4⟩:=tL hb l;obtain⟨u1,u2⟩:=Kx (s:=s) (l:=l);refine⟨KG (λx=>?_) (Zn _),KG (λx=>?_) (Zn _)⟩
 ·rw[u2,jL];constructor
  ·(intro h;have h0:0<=x:=by rcases h with h|⟨_,_,h⟩;{exact h.1};{exact h.1});have:=hd x h;exact⟨x.toNat,by omega,by omega,(m4 x.toNat oM).2 (by grind)⟩
  grind
 {rw[u1,jL];constructor;{intro h;obtain⟨g1,g2⟩:=h.rng;exact⟨x.toNat,by omega,by omega,(m3 x.toNat oM).2 (by grind)⟩};grind}
def pot (s:Scp) (M:List Int):Nat:=(((List.range s.lems.length).filter λn:Nat=>decide ((n:Int)∉M)).map λn:Nat=>(s.pfn n).length).sum
def Fc {s:Scp}{M:List Int}{n:Int}(h0:0<=n)(h1:n<s.lems.length)(h:n∉M):pot s (n::M)+(s.pfn n).length=pot s M:=by
 unfold pot;obtain⟨k,rfl⟩:∃ k:Nat,n=k:=⟨n.toNat,by omega⟩;have hk:k<s.lems.length:=by omega
 have key:∀ (l:List Nat),l.Nodup->k∈l->((l.filter λx:Nat=>decide ((x:Int)∉(k:Int)::M)).map λn:Nat=>(s.pfn n).length).sum+(s.pfn k).length=((l.filter λx:Nat=>decide ((x:Int)∉M)).map λn:Nat=>(s.pfn n).length).sum:=by
  intro l;induction l with
  |nil=>grind| cons a r ih =>
   intro hn hm;obtain⟨g1,g2⟩:=mI.1 hn;rcases yI.1 hm with rfl|hm;{grind [List.filter_congr]};grind
 grind
def wgt (s:Scp) (st:Ust):Nat:=st.1.length+pot s st.2
def Zg {s:Scp}{U:List Mult->Ust->Ust}{f:Nat}(hU:∀ l a,um s a.2<f->wgt s (U l a)<=wgt s a+l.length){n:Int}{a:Ust}(hf:um s a.2<=f):wgt s (dM s U n a)<=wgt s a:=by unfold dM;split;{rename_i h;obtain⟨h0,h1,h2⟩:=h;have hu:=U7 h0 h1 h2;have hp:=Fc h0 h1 h2;have:=hU (s.pfn n) (a.1,n::a.2) (by grind);have e1:wgt s (a.1,n::a.2)=a.1.length+pot s (n::a.2):=rfl;have e2:wgt s a=a.1.length+pot s a.2:=rfl;omega};omega
def JP (d:Int)(D:List Int):(bF d D).length<=D.length+1:=by grind [bF]
def Xk {s:Scp}{U:List Mult->Ust->Ust}{f:Nat}(hR:∀ l a,um s a.2<f->Run s l a (U l a))(hU:∀ l a,um s a.2<f->wgt s (U l a)<=wgt s a+l.length):∀ (l:List Mult) (a:Ust),um s a.2<=f->wgt s (ZK s U l a)<=wgt s a+l.length
 |[],a,_=>yD _| m::r,a,hf=>by
  (unfold ZK;have hb:wgt s (bF (s.rowD m.row) a.1,a.2)<=wgt s a+1:=by have:=JP (s.rowD m.row) a.1;show (bF _ _).length+pot s a.2<=a.1.length+pot s a.2+1;omega);have h1:=Zg hU (n:=m.row.lo-1) (a:=(bF (s.rowD m.row) a.1,a.2)) hf;have c1:=(nJ hR (n:=m.row.lo-1) (a:=(bF (s.rowD m.row) a.1,a.2)) hf).1;generalize dM s U (m.row.lo-1) (bF (s.rowD m.row) a.1,a.2)=c at *;have ucb:um s c.2<=f:=vR (oF λn hn=>c1 n hn) hf;have h2:=Zg hU (n:=m.row.hi-1) (a:=c) ucb;have d1:=(nJ hR (n:=m.row.hi-1) (a:=c) ucb).1;generalize dM s U (m.row.hi-1) c=d at *;have h3:=Xk hR hU r d (vR (oF d1) ucb);grind
def Xn (s:Scp):∀ (f:Nat) (l:List Mult) (a:Ust),um s a.2<=f->wgt s (s9 s f l a)<=wgt s a+l.length
 |0,l,a,h=>Xk (f:=0) (λ_ _ h=>absurd h oM) (λ_ _ h=>absurd h oM) l a h| f+1,l,a,h=>Xk (f:=f+1) (λl a h=>mT s f l a oM) (λl a h=>Xn s f l a oM) l a h
def vol (s:Scp) (st:Ust):Nat:=st.2.length+um s st.2
def Zh {s:Scp}{U:List Mult->Ust->Ust}{f:Nat}(hU:∀ l a,um s a.2<f->vol s (U l a)=vol s a){n:Int}{a:Ust}(hf:um s a.2<=f):vol s (dM s U n a)=vol s a:=by unfold dM;split;{rename_i h;obtain⟨h0,h1,h2⟩:=h;have hu:=U7 h0 h1 h2;rw[hU (s.pfn n) (a.1,n::a.2) (by grind)];show (n::a.2).length+um s (n::a.2)=a.2.length+um s a.2;grind};{rfl}
def Y1 {s:Scp}{U:List Mult->Ust->Ust}{f:Nat}(hR:∀ l a,um s a.2<f->Run s l a (U l a)){n:Int}{a:Ust}(hf:um s a.2<=f):um s (dM s U n a).2<=f :=
 vR (oF λk hk=>(nJ hR (n:=n) hf).1 k hk) hf
def Xl {s:Scp}{U:List Mult->Ust->Ust}{f:Nat}(hR:∀ l a,um s a.2<f->Run s l a (U l a))(hU:∀ l a,um s a.2<f->vol s (U l a)=vol s a):∀ (l:List Mult) (a:Ust),um s a.2<=f->vol s (ZK s U l a)=vol s a
 |[],a,_=>rfl| m::r,a,hf=>by unfold ZK;have u1:um s ((bF (s.rowD m.row) a.1,a.2):Ust).2<=f:=hf;have u2:=Y1 hR (n:=m.row.lo-1) u1;have u3:=Y1 hR (n:=m.row.hi-1) u2;rw[Xl hR hU r _ u3,Zh hU u2,Zh hU u1];rfl
def Xo (s:Scp):∀ (f:Nat) (l:List Mult) (a:Ust),um s a.2<=f->vol s (s9 s f l a)=vol s a
 |0,l,a,h=>Xl (f:=0) (λ_ _ h=>absurd h oM) (λ_ _ h=>absurd h oM) l a h| f+1,l,a,h=>Xl (f:=f+1) (λl a h=>mT s f l a oM) (λl a h=>Xo s f l a oM) l a h
def pN {rs:List ResultVar}{r:PV}{ps ps':PS}{kept:List (Nat×Obj')}(hw:Wk ps ps')(h3:lv r=true)(h4:uU id ps'.objs kept)(h5:ndO (z9 id kept)=true)(h6:Ww id kept)(h:match dL ps' rs with
  |some l=>les (nE l) (ren id r)| none=>False):RetOk rs r kept [] ps:=by
 cases h1:dL ps' rs with
 |none=>grind| some l=>rw[h1] at h;exact⟨ps',l,id,hw,h1,dW h,h3,by grind,by grind,h6⟩
def bc (b:Bool):List PV:=[bV b]
def tZ (b:Bool):yS qZ (bc b)=true:=rfl
def eT (b:Bool):(bc b).length=1:=rfl
def ic (z:Int):List PV:=[iV z]
def kY (b:Int):yS qZ (ic b)=true:=rfl
def dC (b:Int):(ic b).length=1:=rfl
abbrev zlv (l:List Int):PV:=.sl (λ_=>enc ic l)
def TU:ty 49=.sli 1 8 [iV 0]:=by cbv
structure Psz (s:Scp):Prop where
 q:s.q.sz (2^31)
 p:Dsz (2^32) s.path
 v:s.q.valid=true
def Zp {α:Type} (P:α->Bool) (i:Int) (l:List α):Int:=if wH P l<0 then -1 else wH P l+i
theorem Z8 {α:Type}(P:α->Bool)(i:Int)(a:α)(r:List α):Zp P i (a::r)=if P a=true then i else Zp P (i+1) r:=by unfold Zp;rw[show wH P (a::r)=if P a then 0 else if wH P r<0 then -1 else wH P r+1 from rfl];grind
def Z7 {α:Type}(P:α->Bool)(l:List α):Zp P 0 l=wH P l:=by unfold Zp;have:=aG P l;omega
def Lb (s:Scp)(kind unit:Int)(hs:Psz s):zD 103 [sv s,iV kind,iV unit] (iV (s.fst kind unit)):=by
 refine sF Tryz.f103 ?_;have cf:∀ d,d∈s.path->zD 105 [qv s.q,dv d] (bV (d.fits s.q)):=λd h=>by have:=G5 s.q d hs.q (hs.p.sz d h);rw[hs.v,yN] at this;omega
 have hpl:=hs.p.len;generalize hr:s.fst kind unit=r;have hr0:r=Zp (λd=>decide (d.k=kind)&&(decide (d.i=unit)&&d.fits s.q)) 0 (s.path.drop 0):=by rw[Z7];exact hr.symm
 obtain⟨ft,hft⟩:∃ ft:Dec->Bool,∀ d,ft d=d.fits s.q:=⟨_,λ_=>rfl⟩;simp only[<-hft] at cf hr0;obtain⟨P,hP⟩:∃ P:Dec->Bool,(λd=>decide (d.k=kind)&&(decide (d.i=unit)&&ft d))=P:=⟨_,rfl⟩;rw[hP] at hr0;have hPd:∀ d,P d=(decide (d.k=kind)&&(decide (d.i=unit)&&ft d)):=λd=>by grind
 obtain⟨X,hX⟩:∃ X:Int->List Dec->Int,∀ i l,X i l=Zp P i l:=⟨_,λ_ _=>rfl⟩;have hXn:∀ i,X i []=-1:=λi=>by rw[hX];rfl
 have hXc:∀ i d r,X i (d::r)=if P d=true then i else X (i+1) r:=λi d r=>by grind [Z8]
 rw[<-hX] at hr0;clear hP hft hr hs hX;cbv;refine zW (σ:=Nat) (λi=>⟨[(1,iV kind),(2,iV unit),(3,.ptr 3 0),(7,iV i)],[(3,.box (sc s))]⟩) (λi=>i<=s.path.length/\r=X i (s.path.drop i)) (λi=>s.path.length-i) 0 ⟨by omega,hr0⟩ (wkZ) ?_;clear hr0;intro i hi;obtain⟨h1,h2⟩:=hi;cbv;refine zE (λh5=>?_) (λh5=>?_)
 ·have hlt:=uL h5;obtain⟨d,hd⟩:=zO hlt;have cv:=cf d (zX hd);rw[zU hd,hXc,hPd] at h2;generalize ft d=fd at *;cbv;refine zM 28 (by cbv) ?_;cbv;refine yB hd uW qN ?_;cbv;refine zQ (λe1=>?_) (λe1=>?_)
  rotate_left
  {rw[decide_eq_false e1,kK,if_neg (by decide)] at h2;cbv;exact⟨zC om om,i+1,⟨om,h2⟩,om,wkZ⟩};rw[decide_eq_true e1,yN] at h2;cbv;refine yB hd uW qN ?_;cbv;refine zQ (λe2=>?_) (λe2=>?_)
  rotate_left
  {rw[decide_eq_false e2,kK,if_neg (by decide)] at h2;cbv;exact⟨zC om om,i+1,⟨om,h2⟩,om,wkZ⟩};rw[decide_eq_true e2,yN] at h2;cbv;refine yB hd uW qN ?_;cbv;refine dA cv ?_;cbv;refine zP (λe3=>?_) (λe3=>?_)
  ·rw[if_pos e3] at h2;cbv
   (refine rC ?_;cbv)
   exact zB h2.symm
  {rw[if_neg (by grind)] at h2;cbv;exact⟨zC om om,i+1,⟨om,h2⟩,om,wkZ⟩}
 ·have he:=kU h5 h1;rw[he,wD,hXn] at h2;cbv
  (refine rC ?_;cbv)
  exact zB h2.symm
def EB (s : Scp) (r : Row) (hs : Psz s) : zD 126 [sv s, rwv r] (iV (s.rowD r)) := by
  refine sF Tryz.f126 ?_
  have c1 := Lb s 1 r.i hs
  have c2 := Lb s 2 r.i hs
  have hr : s.rowD r = if r.k = 4 then r.i else if (r.k = 7 ∨ r.k = 8) ∧ r.lo = 0 then s.fst 1 r.i else if (r.k = 9 ∨ r.k = 10) ∧ r.hi = 0 then s.fst 2 r.i else -1 := rfl
  generalize s.rowD r = d at *
  generalize s.fst 1 r.i = f1 at *
  generalize s.fst 2 r.i = f2 at *
  obtain ⟨k, i, lo, hi⟩ := r
  dsimp only at *
  have rt : ∀ x : Int, x = d → LeS (iV x) (iV d) := fun x h => zB h
  clear hs
  cbv
  repeat' first
    | (refine zE (fun e => ?_) (fun e => ?_) <;> cbv)
    | ((refine rC ?_; cbv); refine rt _ ?_; rw [hr]; (try dsimp only [zY] at *); grind)
    | (exfalso; exact om)
    | (have g : k = 7 ∨ k = 8 := by exact om
       refine yP rfl okA c1 rfl ?_; cbv)
    | (have g : k = 9 ∨ k = 10 := by exact om
       refine yP rfl okA c2 rfl ?_; cbv)
def GR (D:List Bool)(d:Int):kM D d=if 0<=d/\d<D.length then D.set d.toNat true else D:=rfl
theorem pZ {D:List Bool}{d:Int}(h0:0<=d)(h1:d<D.length){k:Nat}(hk:k=d.toNat):(enc bc D).set k [.bool true]=enc bc (kM D d):=by rw[GR,if_pos ⟨h0,h1⟩,<-tS,hk];rfl
theorem Qg {D:List Bool}{d:Int}(h:¬(0<=d/\d<D.length)):kM D d=D:=by rw[GR,if_neg h]
abbrev bao (n:Nat) (l:List Bool):Nat×Obj':=(n,aV 1 (enc bc l))
def EL (s : Scp) (l : List Mult) (st : Mst) (hs : Psz s) (hl : l.length < 2^38) (h1 : st.1.length < 2^38) (h2 : st.2.length < 2^38) :
    Sound 58 [sv s, mlv l, oV 1000000 1 st.1.length, oV 1000001 1 st.2.length] [bao 1000000 st.1, bao 1000001 st.2] []
      (.tup [oV 1000000 1 st.1.length, oV 1000001 1 st.2.length]) [bao 1000000 (rL s l st).1, bao 1000001 (rL s l st).2] [] := by
  refine sF Tryz.f58 ?_
  have cr := fun r => EB s r hs
  obtain ⟨R, hR⟩ := ex s.rowD
  obtain ⟨W, hW⟩ := ex (rL s l st)
  obtain ⟨X, hX⟩ : ∃ X : List Mult → Mst → Mst, rL s = X := ⟨_, rfl⟩
  have hXn : ∀ st, X [] st = st := fun st => by rw [← hX]; rfl
  have hXc : ∀ m r st, X (m :: r) st = X r (kM st.1 (R m.row), kM (kM st.2 (m.row.lo - 1)) (m.row.hi - 1)) := fun m r st => by rw [← hX, ← hR]; rfl
  rw [hW]
  rw [hX] at hW
  rw [hR] at cr
  obtain ⟨W1, W2⟩ := W
  obtain ⟨D0, M0⟩ := st
  dsimp only at *
  clear hR hX hs
  cbv
  refine zW (σ := Nat × List Bool × List Bool) (fun x => ⟨[(1, mlv l), (2, oV 1000000 1 D0.length), (3, oV 1000001 1 M0.length), (4, .ptr 4 0), (10, iV x.1)], [bao 1000000 x.2.1, bao 1000001 x.2.2, (4, .box (sc s))]⟩)
    (fun x => x.1 ≤ l.length ∧ X (l.drop x.1) (x.2.1, x.2.2) = (W1, W2) ∧ x.2.1.length = D0.length ∧ x.2.2.length = M0.length) (fun x => l.length - x.1) (0, D0, M0) ⟨yU _, hW, rfl, rfl⟩ (wkZ) ?_
  clear hW
  intro x hx
  obtain ⟨i, D, M⟩ := x
  obtain ⟨g1, g2, g3, g4⟩ := hx
  dsimp only at g1 g2 g3 g4
  cbv
  refine zE (fun h5 => ?_) (fun h5 => ?_)
  · have hlt := uL h5
    obtain ⟨m, hm⟩ := zO hlt
    rw [zU hm, hXc] at g2
    have c := cr m.row
    obtain ⟨⟨mk, mi, mlo, mhi⟩, mcf⟩ := m
    dsimp only at g2 c
    generalize R ⟨mk, mi, mlo, mhi⟩ = d at *
    have len1 := cW D d
    have H8 := cW M (mlo - 1)
    have len3 := cW (kM M (mlo - 1)) (mhi - 1)
    have fD1 : ¬ (0 ≤ d ∧ d < D.length) → enc bc D = enc bc (kM D d) := fun h => by rw [Qg h]
    have fD2 : 0 ≤ d → d < D.length → (enc bc D).set (0 + d.toNat) [.bool true] = enc bc (kM D d) := fun h h' => pZ h h' oM
    have fM1 : ¬ (0 ≤ mlo - 1 ∧ mlo - 1 < M.length) → ¬ (0 ≤ mhi - 1 ∧ mhi - 1 < M.length) → enc bc M = enc bc (kM (kM M (mlo - 1)) (mhi - 1)) := fun h h' => by grind [Qg]
    have fM2 : 0 ≤ mlo - 1 → mlo - 1 < M.length → ¬ (0 ≤ mhi - 1 ∧ mhi - 1 < M.length) → (enc bc M).set (0 + (mlo - 1).toNat) [.bool true] = enc bc (kM (kM M (mlo - 1)) (mhi - 1)) := fun h h' h'' => by grind [kM, pZ]
    have fM3 : ¬ (0 ≤ mlo - 1 ∧ mlo - 1 < M.length) → 0 ≤ mhi - 1 → mhi - 1 < M.length → (enc bc M).set (0 + (mhi - 1).toNat) [.bool true] = enc bc (kM (kM M (mlo - 1)) (mhi - 1)) := fun h h' h'' => by grind [Qg, pZ]
    have fM4 : 0 ≤ mlo - 1 → mlo - 1 < M.length → 0 ≤ mhi - 1 → mhi - 1 < M.length → ((enc bc M).set (0 + (mlo - 1).toNat) [.bool true]).set (0 + (mhi - 1).toNat) [.bool true] = enc bc (kM (kM M (mlo - 1)) (mhi - 1)) := fun h h' g g' => by rw [pZ h h' (k := 0 + (mlo - 1).toNat) oM]; exact pZ g (by rw [H8]; exact g') oM
    have hend : ∀ D' M' : List Bool, D' = kM D d → M' = kM (kM M (mlo - 1)) (mhi - 1) → (i + 1 ≤ l.length ∧ X (l.drop (i + 1)) (D', M') = (W1, W2) ∧ D'.length = D0.length ∧ M'.length = M0.length) := fun D' M' e1 e2 => by
      rw [e1, e2]
      exact ⟨hlt, g2, by omega, by omega⟩
    clear cr hXn hXc g2
    cbv
    refine yB hm wY xN ?_
    cbv
    refine cA c ?_
    cbv
    repeat' first
      | (refine zQ (fun e => ?_) (fun e => ?_) <;> cbv)
      | (refine zE (fun e => ?_) (fun e => ?_) <;> cbv)
      | (refine ⟨zC om om, (i + 1, kM D d, kM (kM M (mlo - 1)) (mhi - 1)), hend _ _ rfl rfl, om, .le okZ ?_ rfl⟩
         cbv
         refine ⟨zH ?_, zH ?_, ?_⟩
         · first | exact fD1 om | exact fD2 om om
         · first | exact fM1 om om | exact fM2 om om om | exact fM3 om om om | exact fM4 om om om om
         · exact okZ)
      | (refine ⟨yZ om om, tT (p := bc) D rfl d.toNat om om tZ eT (fun a ha => ?_)⟩; cbv)
      | (refine ⟨zC om om, yZ om om, tT (p := bc) M rfl _ rfl om tZ eT (fun a ha => ?_)⟩; cbv)
      | (refine ⟨zC om om, yZ om om, tT (p := bc) (kM M (mlo - 1)) (pZ om om om) _ rfl om tZ eT (fun a ha => ?_)⟩; cbv)
  · have hi : i = l.length := kU h5 g1
    subst hi
    rw [wD, hXn] at g2
    cases g2
    cbv
    refine pN (.refl _) rfl ⟨⟨rfl, rfl⟩, ⟨rfl, rfl⟩, trivial⟩ rfl ⟨⟨rfl, by decide⟩, ⟨rfl, by decide⟩, trivial⟩ ?_
    cbv
    exact okA
end Go.Proofs.YtaeaffgjdcigoaaGreat
