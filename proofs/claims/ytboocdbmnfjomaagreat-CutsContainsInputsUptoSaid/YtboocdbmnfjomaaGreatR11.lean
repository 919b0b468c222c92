/- A part of the proof: PmN, PmO. -/
import Derived.Test.YtboocdbmnfjomaaGreatR10
set_option linter.all false
namespace Go.Proofs.YtboocdbmnfjomaaGreat
open Go
section
variable {w0:World} {S0:Nat->Nat->Prop} {K0:Nat->Prop} {N:Cx} {τ:Nat->PV} {objs:List (Nat×Obj')} {a:Act} {w w':World} {S S':Nat->Nat->Prop} {β:Bm}
theorem c8 {o:Oper}{ps:PS}{K:PS->Prop}{Km:Act->World->Prop}{Q:Exit->Act->World->Prop}(h:Sim w0 S0 K0 N (zD ps.tmps) ps.objs a w S β)(hs:cG o ps K)(hd:∀ t,o.dst=some t->t<N) (hk:∀ ps' a' w' S' β',K ps'->Sim w0 S0 K0 N (zD ps'.tmps) ps'.objs a' w' S' β'->Km a' w'):o.wp Pg a w Km Q:=by
 have hsop:sop ps.objs o.op (ev (zD ps.tmps)) (λv=>K (put ps o.dst v))->o.wp Pg a w Km Q:=λhs =>
  ZK h hs λpv w' S' v hK l hr=>hk _ _ _ _ _ hK (wU (h.go l) o.dst hd hr)
 unfold cG at hs;split at hs;{rename_i t ad hop;split at hs;{obtain⟨ps',hw,hs⟩:=hs.h;obtain⟨S1,β1,h1⟩:=hw.sound h;exact ZK h1 (by grind) λpv w' S' v hK l hr=>hk _ _ _ _ _ hK (wU (h1.go l) o.dst hd hr)};grind}
 ·rename_i t hop;split at hs
  ·rename_i d hod;cases hno:(ty t).isNo with
   |true=>grind| false =>
    simp only[hno,cond_false] at hs;obtain⟨i,zv,h1,h2,h3⟩:=GE (w:=w) (S:=S) (β:=β) hno;have hz:wM d (ty t).zero=true:=by
     cases hty:ty t with
     |no=>grind [Ty.isNo]| sc z=>obtain⟨_,_,zv',_,_,_,_,_,_,h7,_⟩:=Xs hty;rw[h7];simp only[Ty.zero,wM,y4,Bool.and_true];unfold wT;split <;> rfl
     |st n fs z =>
      obtain⟨_,_,zs,_,_,_,_,_,_,h7,_⟩:=Xr hty;rw[h7];simp only[Ty.zero];generalize zs.toList=l;induction l with
      |nil=>rfl| cons x l ih=>simp only[j3,wM,y4,yS];exact⟨by unfold wT;split <;> rfl,ih⟩
     |arr len n ag z =>
      obtain⟨_,_,zs,_,_,_,_,_,_,_,_,_,_,h7⟩:=iS hty;rw[h7];simp only[Ty.zero];generalize zs.toList=l;induction l with
      |nil=>rfl| cons x l ih=>simp only[j3,wM,y4,yS];exact⟨by unfold wT;split <;> rfl,ih⟩
     |sli n b z=>rfl
    refine o9 (T:=t) hod (hd d hod) h hs h3 ?_ hk hz;simp[execOp,hop,Instr.alloc,pD h1 h2,newVar,newRow]
  grind
 ·rename_i t x hop;split at hs
  ·rename_i d hod;cases hp:fF (ev (zD ps.tmps) x) with
   |false=>grind| true =>
    simp only[hp,cond_true] at hs;have hr:=h.eval x;have hz:yO d ps=true->wM d (yZ (ev (zD ps.tmps) x))=true:=by
     intro hf;simp only[yO,yS] at hf;have hx:xN d (ev (zD ps.tmps) x)=true:=by
      cases x with
      |tmp t=>exact vY hf.1 t| const v=>simp only[ev];unfold wT;split <;> rfl
      |global g=>rfl| func f=>rfl
     generalize ev (zD ps.tmps) x=y at hx hp;cases y with
     |agg cs =>
      have:∀ (l:List PV),y4 (rf1 d) l=true->wM d l=true:=by
       intro l;induction l with
       |nil=>intro _;rfl
       |cons c l ih =>
        intro hl;simp only[y4,yS] at hl;simp only[wM,y4,yS];refine⟨?_,ih hl.2⟩;have h1:=hl.1;have up:∀ (l:List PV),y4 (rf0 d) l=true->y4 (rf1 d) l=true:=by
         intro l;induction l with
         |nil=>intro _;rfl
         |cons e l ih2 =>
          intro hl;simp only[y4,yS] at hl ⊢;exact⟨by cases e <;> first|(simp[rf0] at hl;done)|exact hl.1,ih2 hl.2⟩
        cases c <;> first|exact h1|exact up _ h1
      exact this cs hx
     |tup cs=>grind [fF,tW]| _=>simpa only [yZ,wM,y4,Bool.and_true] using hx
    (have hfree:yO d ps=true:=by grind [ZZ]);refine o9 (T:=t) hod (hd d hod) h hs (gE hr hp) ?_ hk (hz hfree)
    simp[execOp,hop,Instr.box,newVar,newRow]
  grind
 ·rename_i t ad vl hop;split at hs
  ·rename_i n off ha;split at hs
   ·rename_i cs ho;cases hc:(nqb (yZ (ev (zD ps.tmps) vl)).length (ty t).cells&&nle (off+(ty t).cells) cs.length&&nlt 0 (ty t).cells&&y4 tW (yZ (ev (zD ps.tmps) vl))) with
    |false=>grind| true =>
     simp only[hc,cond_true] at hs;simp only[yS] at hc;exact Dh hop hd h ha ho (y8 hc.1.1.1) (m7 hc.1.1.2) (by simp_all) hc.2 hs hk
   grind
  ·rename_i n s i off ha;split at hs
   ·rename_i s' els ho;cases hc:(nqb s s'&&nqb (yZ (ev (zD ps.tmps) vl)).length (ty t).cells&&nle (off+(ty t).cells) s&&nlt 0 (ty t).cells&&y4 Zs (yZ (ev (zD ps.tmps) vl))) with
    |false=>grind| true =>
     simp only[hc,cond_true] at hs;simp only[yS] at hc;have:=y8 hc.1.1.1.1;subst this;exact Di hop hd h ha ho (y8 hc.1.1.1.2) (m7 hc.1.1.2) (by simp_all) hc.2 hs hk
   ·rename_i s' rows hs0 ho;cases hc:(nqb s 1&&nqb off 0&&nqb (ty t).cells 1&&MR (ev (zD ps.tmps) vl)) with
    |false=>grind| true =>
     simp only[hc] at hs;simp only[yS] at hc;have e1:=y8 hc.1.1.1;have e2:=y8 hc.1.1.2;subst e1 e2;exact Dg hop hd h ha ho (y8 hc.1.2) hc.2 hs hk
   grind
  grind
 ·rename_i t len parts hop;split at hs
  ·rename_i d n b z hod ht;cases hor:Qr (sZ n (vJ (ev (zD ps.tmps)) parts.toList) (rZ z len)) with
   |none =>
    rw[hor] at hs;cases he:(nqb len 0&&Qt parts.toList) with
    |false =>
     simp only[he] at hs;split at hs
     ·rename_i cs hap;cases hc:(nqb cs.length len&&nqb n 1&&nle len 1000&&yO d ps&&wM d cs) with
      |false=>grind| true =>
       simp only[hc] at hs;simp only[yS] at hc;have e1:=y8 hc.1.1.1.2;exact VN hop hod (hd d hod) h ht e1 (e1 ▸ hap) (y8 hc.1.1.1.1) (by simp_all) hc.1.2 hc.2 hs hk
     cases hfm:L3 z with
     |false=>grind| true =>
      simp only[hfm] at hs;split at hs
      ·rename_i els hfe;cases hc:(nle (len*n) 1000&&nK els) with
       |false=>grind| true =>
        simp only[hc] at hs;rcases hs.h with hs|⟨hfr,hs⟩;{refine hsop ?_;rw[hop];simp only[sop,ht,hfe,hc];grind};{simp only[yS] at hc;exact Va hop hod (hd d hod) h ht hfe (m7 hc.1) hc.2 hfr hs hk}
      grind
    |true =>
     simp only[he] at hs;simp only[yS] at he;cases hfr:yO d ps with
     |false=>grind| true=>simp only[hfr] at hs;exact Q8 hop hod (hd d hod) h ht (y8 he.1) he.2 hfr hs hk
   |some p =>
    obtain⟨k,s,o',len'⟩:=p;simp only[hor] at hs;cases hc:(nqb n 1&&nqb len 1 && !(nqb k d)&&yO d ps) with
    |false=>grind| true =>
     simp only[hc] at hs;simp only[yS] at hc;have e1:=y8 hc.1.1.1;have e2:=y8 hc.1.1.2;subst e1 e2;exact Vb hop hod (hd d hod) h ht rfl (K7 hor) (by grind [xN,rf0]) hc.2 hs hk
  grind
 ·rename_i t l c hop;split at hs
  ·rename_i n b z d x y ht hod hl hc;obtain⟨hR,hM,hs⟩:=hs;cases hf:(yO d ps&&y4 Zs z) with
   |false=>grind| true =>
    simp only[hf,cond_true] at hs;simp only[yS] at hf;exact H5 hop hod (hd d hod) h ht hl hc hR hM hf.1 hf.2 hs hk
  grind
 ·rename_i c hop;split at hs;{rename_i g hcl;obtain⟨ps',hw,f,caps,hf,hs⟩:=hs.h;obtain⟨S1,β1,h1⟩:=hw.sound h;rcases hs with⟨args',r,hle,hso,hnm,hK⟩|⟨hn,cargs,kept,eaten,r,kept',made,hle,hso,hobj,hnd1,hnd2,hclo,hnd3,hfree,hlv,hlr,hnm,hK⟩;{exact nM hop hcl h1 hf ⟨args',r,hle,hso,hnm,hK⟩ λpv w' S' v hK' l hr=>hk _ _ _ _ _ hK' (wU (h1.go l) o.dst hd hr)};{exact J0 hop hcl hd h1 hf hle hso hobj hnd1 hnd2 hclo hnd3 hfree hlv hlr hnm hK hk}}
  ·rename_i hcl;split at hs
   ·rename_i b x t tx ha ht;cases htx:iN (ty tx) with
    |false=>grind| true =>
     simp only[htx,cond_true] at hs;rcases hs.h with hs|hs
     case inr =>
      obtain⟨ps',d,nm,b',z,m,m',s,o1,len,rows,o2,len',rows',hw,hod,hty,g1,g2,g3,g4,g5,g6,g7,g8,g9,g10,g11,g12,g13⟩:=hs.h;obtain⟨S1,β1,h1⟩:=hw.sound h;exact Gw hop hcl (by grind) (by grind) htx hod (hd d hod) h1 hty g1 g2 g3 g4 g5 g6 g7 g8 g9 g10 g11 g12 g13 hk
     obtain⟨ps',d,nm,n,b',z,xs,hw,hod,hty,hx,hwid,hs⟩:=hs.h;obtain⟨S1,β1,h1⟩:=hw.sound h;exact Cc hop hcl (by grind) (by grind) htx hod (hd d hod) h1 hty hx hwid hs hk
   grind
  all_goals grind
 ·rename_i t hop;split at hs
  ·rename_i d hod;cases hf:yO d ps with
   |false=>grind| true=>simp only[hf] at hs;exact VH hop hod (hd d hod) h hs.1 hf hs.2 hk
  grind
 ·rename_i t m x hop;split at hs
  ·rename_i n k hm hx;split at hs
   ·rename_i t' ks ho;cases ht:nqb t t' with
    |false=>grind| true =>
     simp only[ht] at hs;have e:=y8 ht;subst e;exact QB hop hd h hm hx ho hs.1 hs.2 hk
   grind
  grind
 ·rename_i t m x v hop;split at hs
  ·rename_i n k hm hx hv;split at hs
   ·rename_i t' ks ho;cases ht:nqb t t' with
    |false=>grind| true =>
     simp only[ht] at hs;have e:=y8 ht;subst e;exact YS hop hd h hm hx hv ho hs.1 hs.2.1 hs.2.2 hk
   grind
  grind
 {rename_i t x yt hop;split at hs;{rename_i n b z els ht hx;have hr:=h.eval x;rw[hx] at hr;obtain⟨pv,val,h1,h2,h3⟩:=Qv (w:=w) (S:=S) (β:=β) (x:=x) ht hr hs;refine kE (v:=val) (w':=w) ?_ (hk _ _ _ _ _ h1 (wU h o.dst hd h3));simp only[execOp,hop,Sem.run_bind] at h2 ⊢;have:a.eval (.const (.slice none 0 0))=.slice none 0 0:=rfl;simp_all};{rename_i n b z m s oo len ht hx;have hr:=h.eval x;rw[hx] at hr;obtain⟨pv,val,h1,h2,h3⟩:=Qu (w:=w) (S:=S) (β:=β) (x:=x) ht hr hs;refine kE (v:=val) (w':=w) ?_ (hk _ _ _ _ _ h1 (wU h o.dst hd h3));simp only[execOp,hop,Sem.run_bind] at h2 ⊢;have:a.eval (.const (.slice none 0 0))=.slice none 0 0:=rfl;simp_all};{rename_i n b z ht hx;have hr:=h.eval x;rw[hx] at hr;have h2:=H1 (w:=w) (x:=x) ht;refine kE (v:=.bool true) (w':=w) ?_ (hk _ _ _ _ _ hs (wU h o.dst hd (pH (λ_=>true))));simp only[execOp,hop,Sem.run_bind] at h2 ⊢;have:a.eval (.const (.slice none 0 0))=.slice none 0 0:=rfl;simp[this,dI hr,h2]};grind};{rename_i t x yt hop;split at hs;{rename_i n b z els ht hx;have hr:=h.eval x;rw[hx] at hr;obtain⟨pv,val,h1,h2,h3⟩:=VF (K:=λv=>K (put ps o.dst v)) (w:=w) (S:=S) (β:=β) (x:=x) ht hr hs;refine kE (v:=val) (w':=w) ?_ (hk _ _ _ _ _ h1 (wU h o.dst hd h3));simp only[execOp,hop,Sem.run_bind] at h2 ⊢;have:a.eval (.const (.slice none 0 0))=.slice none 0 0:=rfl;simp_all};{rename_i n b z m s oo len ht hx;have hr:=h.eval x;rw[hx] at hr;obtain⟨pv,val,h1,h2,h3⟩:=VE (K:=λv=>K (put ps o.dst v)) (w:=w) (S:=S) (β:=β) (x:=x) ht hr hs;refine kE (v:=val) (w':=w) ?_ (hk _ _ _ _ _ h1 (wU h o.dst hd h3));simp only[execOp,hop,Sem.run_bind] at h2 ⊢;have:a.eval (.const (.slice none 0 0))=.slice none 0 0:=rfl;simp_all};{rename_i n b z ht hx;have hr:=h.eval x;rw[hx] at hr;have h2:=K8 (w:=w) (x:=x) ht;refine kE (v:=.bool false) (w':=w) ?_ (hk _ _ _ _ _ hs (wU h o.dst hd (mW (λ_=>true))));simp only[execOp,hop,Sem.run_bind] at h2 ⊢;have:a.eval (.const (.slice none 0 0))=.slice none 0 0:=rfl;simp[this,dI hr,h2]};grind};grind
theorem QJ {want:Bool}{v:PV}{A B:Unit->Prop}(h:v≠.tup []):gdV want v A B=(match want with|true=>brV v A B|false=>brV v B A):=by unfold gdV;grind
theorem oT (w:World)(S:Nat->Nat->Prop)(β:Bm):Rep w S β undef (.tup []):=.tup rfl λj hj=>absurd hj (by simp)
theorem dQ {ops:List Oper}{o:Oper}{A B:Unit->Prop}(ht:∀ t,Rep w S β (a.tmps.getD t undef) (τ t))(h:kM ops o τ A B):(Region.wanted o (yielded ops.toArray a.tmps)=true/\A ())\/(Region.wanted o (yielded ops.toArray a.tmps)=false/\B ()):=by
 unfold kM at h;split at h;{rename_i hg;exact .inl ⟨by simp[Region.wanted,hg],h⟩}
 ·rename_i j want hg;split at h
  ·rename_i oj hj;split at h
   ·rename_i d hd;have key:∀ b,a.tmps.getD d undef=.bool b->Region.wanted o (yielded ops.toArray a.tmps)=(b == want):=by
     intro b hb;have hlt:a.tmps[d]?=some (.bool b):=by
      cases hx:a.tmps[d]? with
      |none =>
       (have:a.tmps.getD d undef=undef:=by simp[hx]);rw[this] at hb
       cases hb
      |some v =>
       simp_all
     grind [Region.wanted,yielded]
    by_cases hu:τ d=.tup []
    ·have hr:=ht d;rw[hu] at hr h;refine .inr ⟨?_,h⟩;have hv:∀ b,a.tmps.getD d undef≠.bool b:=by
      intro b hb;rw[hb] at hr;cases hr with
      |c hf _=>cases hf
     cases hx:a.tmps[d]? with
     |none=>grind [Region.wanted,yielded]| some v =>
      (have e:a.tmps.getD d undef=v:=by simp[hx]);cases v with
      |bool b=>grind| _=>simp[Region.wanted,hg,yielded,hj,hd,hx]
    rw[QJ hu] at h;cases want with
    |true =>
     simp only[cond_true] at h;obtain⟨b,hb,h1,h2⟩:=Ye (ht d) h;grind
    |false =>
     simp only[cond_false] at h;obtain⟨b,hb,h1,h2⟩:=Ye (ht d) h;grind
   grind
  grind
theorem Yx {ops:List Oper}{o:Oper}{ps:PS}{K:PS->Prop}(h:Sim w0 S0 K0 N (zD ps.tmps) ps.objs a w S β)(hs:iK ops o ps K):∃ ps',K ps'/\Sim w0 S0 K0 N (zD ps'.tmps) ps'.objs a w S β:=by
 unfold iK at hs;cases hg:isG ops o with
 |false=>grind| true =>
  simp only[hg,cond_true] at hs;split at hs
  ·rename_i d hd;have hr:=h.tmp d;split at hs
   ·rename_i b hb;rw[hb] at hr;cases hv:b () with
    |true=>exact⟨_,hs.t hv,h.setT (hr.le .tt (by grind [Le]))⟩| false=>exact⟨_,hs.f hv,h.setT (hr.le .ff (by grind [Le]))⟩
   ·rename_i b hb;rw[hb] at hr;cases hv:b () with
    |true=>exact⟨_,hs.t hv,h.setT (hr.le .ff (by grind [Le]))⟩| false=>exact⟨_,hs.f hv,h.setT (hr.le .tt (by grind [Le]))⟩
   grind
  grind
def mG (N:Nat) (o:Oper):Bool :=
 match o.dst with
 |none=>true| some d=>decide (d<N)
theorem pX {o:Oper}(h:mG N o=true):∀ t,o.dst=some t->t<N:=by grind [mG]
theorem rO {ops:List Oper}{Q:Exit->Act->World->Prop}{K:PS->Prop}(hk:∀ ps' a' w' S' β',K ps'->Sim w0 S0 K0 N (zD ps'.tmps) ps'.objs a' w' S' β'->Q .normal a' w'):∀ (l:List Oper) {ps:PS} {a:Act} {w:World} {S:Nat->Nat->Prop} {β:Bm},(∀ o,o∈l->mG N o=true)->Sim w0 S0 K0 N (zD ps.tmps) ps.objs a w S β->jF ops l ps K->wpList Pg ops.toArray Q l a w
 |[],ps,a,w,S,β,_,h,hs=>hk _ _ _ _ _ hs h| o::r,ps,a,w,S,β,hd,h,hs=>by simp only[jF] at hs;simp only[wpList];have hdo:=pX (hd o wZ);rcases dQ h.tmp hs with⟨hw,hA⟩|⟨hw,hB⟩;{rw[if_pos hw];exact .inl (c8 h hA hdo λps' a' w' S' β' hK hsim=>by obtain⟨ps'',hK',hsim'⟩:=Yx hsim hK;exact rO hk r (λo ho=>hd o (wJ _ ho)) hsim' hK')};{rw[if_neg (by grind)];exact rO hk r (λo ho=>hd o (wJ _ ho)) (wU h o.dst hdo (oT _ _ _)) hB}
end
section
variable {K:PV->Prop}
theorem NF {v x y:PV}(h:brV v (λ_=>K x) (λ_=>K y)):∃ pv,K pv/\∀ K':PV->Prop,K' pv->brV v (λ_=>K' x) (λ_=>K' y):=by
 unfold brV at *;split at h;{grind};{grind}
 ·rename_i b;cases hb:b () with
  |true=>exact⟨x,h.t hb,λ_ q=>⟨λ_=>q,λe=>by grind⟩⟩| false=>exact⟨y,h.f hb,λ_ q=>⟨λe=>(by grind),λ_=>q⟩⟩
 ·rename_i b;cases hb:b () with
  |true=>exact⟨y,h.t hb,λ_ q=>⟨λ_=>q,λe=>by grind⟩⟩| false=>exact⟨x,h.f hb,λ_ q=>⟨λe=>(by grind),λ_=>q⟩⟩
 grind
theorem ZU {t:Ty}{cs:List PV}{off:Nat}(h:rdK t cs off K):∃ pv,K pv/\∀ K':PV->Prop,K' pv->rdK t cs off K':=by unfold rdK at *;grind
theorem Q9 {k:IntKind}{z:Unit->Int}(h:arK k z K):∃ pv,K pv/\∀ K':PV->Prop,K' pv->arK k z K':=by unfold arK at *;grind
theorem R9 {op:BinOp}{k k':IntKind}{a b:Unit->Int}(h:DM op k a k' b K):∃ pv,K pv/\∀ K':PV->Prop,K' pv->DM op k a k' b K':=by
 unfold DM at *;split at h;{grind};{grind}
 ·cases hk:GS k k' with
  |false=>grind| true =>
   simp only[hk,cond_true] at h ⊢;split at h;{exact Q9 h};{exact Q9 h};{exact Q9 h}
   all_goals grind
end
theorem Re {K:PV->Prop}{bop:BinOp}{a b:Unit->ByteArray}(h:Df bop a b K):∃ pv,K pv/\∀ K':PV->Prop,K' pv->Df bop a b K':=by unfold Df at *;grind
theorem Pw {K:PV->Prop}{bop:BinOp}{t:TypeId}{x y:Operand}{u v:PV}(h:Cb bop t x y u v K):∃ pv,K pv/\∀ K':PV->Prop,K' pv->Cb bop t x y u v K':=by
 unfold Cb at *;split at h;{exact R9 h};{exact Re h};{split at h;{obtain⟨r,h1,h2⟩:=h.h;exact⟨_,h2,λ_ q=>⟨⟨r,h1,q⟩⟩⟩};grind}
 ·split at h;{grind}
  all_goals grind
theorem M2 {objs:List (Nat×Obj')}{v:PV}{K:PV->Prop}(h:ldV objs v K):∃ pv,K pv/\∀ K':PV->Prop,K' pv->ldV objs v K':=by
 unfold ldV at *;cases hn:lnt objs v with
 |false=>grind| true =>
  rw[hn] at h;rcases h.h with hK|⟨n,s,els,h1,h2,h3⟩;{exact⟨v,hK,λK' q=>⟨.inl q⟩⟩};{exact⟨_,h3,λK' q=>⟨.inr ⟨n,s,els,h1,h2,q⟩⟩⟩}
theorem Uy {objs objs':List (Nat×Obj')}(hx:∀ n o,yK objs n=some o->yK objs' n=some o){v:PV}(h:DF objs v=true):DF objs' v=true:=by
 cases v with
 |osl m s i len =>
  grind [DF]
 |_=>cases h
theorem BZ {objs objs':List (Nat×Obj')}(hx:∀ n o,yK objs n=some o->yK objs' n=some o){v:PV}(h:lnt objs v=true):lnt objs' v=true:=by
 cases v with
 |agg cs =>
  simp only[lnt] at h ⊢;induction cs with
  |nil=>exact h| cons c cs ih =>
   simp only[NL] at h ⊢;cases hc:DF objs c with
   |true=>rw[Uy hx hc]| false =>
    grind
 |osl m s i len=>exact Uy (v:=.osl m s i len) hx h| _=>cases h
theorem Aa {objs objs':List (Nat×Obj')}(hx:∀ n o,yK objs n=some o->yK objs' n=some o){v:PV}{K:PV->Prop}(h:ldV objs v K):ldV objs' v K:=by
 unfold ldV at *;cases hn:lnt objs v with
 |false =>
  rw[hn] at h;cases lnt objs' v with
  |false=>exact h| true=>exact⟨.inl h⟩
 |true =>
  rw[hn] at h;rw[BZ hx hn];rcases h.h with hK|⟨n,s,els,h1,h2,h3⟩;{exact⟨.inl hK⟩};{exact⟨.inr ⟨n,s,els,hx _ _ h1,h2,h3⟩⟩}
theorem Bz {objs objs':List (Nat×Obj')}(hx:∀ n o,yK objs n=some o->yK objs' n=some o){t:Ty}{cs:List PV}{off:Nat}{K:PV->Prop}(h:rdK t cs off (λv=>ldV objs v K)):rdK t cs off (λv=>ldV objs' v K):=by grind [ZU,Aa]
theorem JZ {b:Bool}{objs:List (Nat×Obj')}{g:FuncId}{args:List PV}{K:PV->Prop}(h:CallS b objs g args K):∃ pv,K pv/\∀ K':PV->Prop,K' pv->CallS b objs g args K':=by rcases h.h with⟨args',r,h1,h2,h3,h4⟩|⟨hb,hn,cargs,kept,r,h1,h2,h3,h4,h5,h6,h7,h8,h9,h10⟩;{exact⟨r,h4,λK' q=>⟨.inl ⟨args',r,h1,h2,h3,q⟩⟩⟩};{exact⟨_,h10,λK' q=>⟨.inr ⟨hb,hn,cargs,kept,r,h1,h2,h3,h4,h5,h6,h7,h8,h9,q⟩⟩⟩}
theorem CG {objs:List (Nat×Obj')}{op:Op}{e:Operand->PV}{K:PV->Prop}(h:sop objs op e K):∃ pv,K pv/\∀ K':PV->Prop,K' pv->sop objs op e K':=by
 unfold sop at *;split at h;{grind};{grind};{exact NF h};{grind}
 ·split at h
  all_goals grind
 ·split at h;{exact ZU h};{grind [ZU,M2]}
  ·rename_i n s i off _;split at h
   ·rename_i s' els _;cases hss:nqb s s' with
    |false=>grind| true =>
     simp only[hss,cond_true] at h ⊢;obtain⟨c,h1,h2,h3,h4⟩:=h.h;obtain⟨pv,h5,h6⟩:=ZU h4;exact⟨pv,h5,λK' q=>⟨⟨c,h1,h2,h3,h6 K' q⟩⟩⟩
   ·rename_i s' rows hs _;cases hss:(nqb s 1&&nqb off 0) with
    |false=>grind| true =>
     simp only[hss] at h ⊢;obtain⟨v0,k0,h1,h2,h4⟩:=h.h;obtain⟨pv,h5,h6⟩:=ZU h4;exact⟨pv,h5,λK' q=>⟨⟨v0,k0,h1,h2,h6 K' q⟩⟩⟩
   ·rename_i cs _;cases hss:(nqb s 1&&nqb off 0) with
    |false=>grind| true =>
     simp only[hss] at h ⊢;obtain⟨h1,h4⟩:=h.h;obtain⟨pv,h5,h6⟩:=ZU h4;exact⟨pv,h5,λK' q=>⟨⟨h1,h6 K' q⟩⟩⟩
   grind
  grind
 {exact Pw h};{split at h;{grind};{grind};{grind};{grind};{exact Q9 h};grind}
 ·rename_i src dst x;cases hno:(ty src).isNo with
  |true=>grind| false =>
   simp only[hno,cond_false] at h ⊢;split at h;{grind};{obtain⟨h1,h2,ns,h3,h4⟩:=h.h;exact⟨_,h4,λ_ q=>⟨h1,h2,ns,h3,q⟩⟩};grind
 ·split at h
  all_goals grind
 ·split at h
  ·split at h
   ·rename_i off sz ag hi;cases ag with
    |false =>
     (try simp only at h ⊢)
     grind
    |true =>
     (try simp only at h ⊢)
     grind
   grind
  grind
 {split at h;{obtain⟨h0,c,h1,h2,h3,h4⟩:=h.h;exact⟨_,h4,λ_ q=>⟨⟨h0,c,h1,h2,h3,q⟩⟩⟩};{grind};{obtain⟨j,h1,h2,h3⟩:=h.h;exact⟨_,h3,λ_ q=>⟨⟨j,h1,h2,q⟩⟩⟩};grind}
 ·split at h
  ·rename_i len z cs k kv _ _ _;cases hll:nqb len cs.length with
   |false=>grind| true =>
    simp only[hll,cond_true] at h ⊢;obtain⟨j,h1,h2,h3⟩:=h.h;exact⟨_,h3,λ_ q=>⟨⟨j,h1,h2,q⟩⟩⟩
  grind
 {grind}
 ·split at h;{grind}
  ·rename_i n b z m s o len _ _;split at h
   ·rename_i l hh e1 e2;cases hss:nqb n s with
    |false=>simp only[hss] at h| true =>
     simp only[hss] at h ⊢;obtain⟨h1,⟨h2⟩⟩:=h;rcases h2 with h2|h2;{exact⟨_,h2.2,λ_ q=>⟨h1,⟨.inl ⟨h2.1,q⟩⟩⟩⟩};{exact⟨_,h2.2,λ_ q=>⟨h1,⟨.inr ⟨h2.1,q⟩⟩⟩⟩}
   grind
  all_goals grind
 {grind};{grind};{split at h;{split at h;{unfold M0 at *;grind};grind};{grind};{grind};{split at h;{exact JZ h};grind};grind};grind
theorem pU {e e':Operand->PV}:∀ {l:List Operand},(∀ x,x∈l->e x=e' x)->evs e l=evs e' l
 |[],_=>rfl| x::r,h=>by simp only[evs];rw[h x wZ,pU λy hy=>h y (wJ _ hy)]
theorem bJ {e e':Operand->PV}:∀ {l:List (Nat×Operand)},(∀ x,x∈l.map (·.2)->e x=e' x)->vJ e l=vJ e' l
 |[],_=>rfl| (i,x)::r,h=>by simp only[vJ];rw[h x (by simp),bJ λy hy=>h y (by grind)]
theorem X4 {e e':Operand->PV}{d:Unit->Int}{o:Option Operand}(h:∀ x,o=some x->e x=e' x):i7 e d o=i7 e' d o:=by
 cases o with
 |none=>rfl| some x=>simp only[i7];grind
theorem V6 {objs:List (Nat×Obj')}{op:Op}{e e':Operand->PV}{K:PV->Prop}(h:∀ x,x∈op.operands.toList->e x=e' x)(hs:sop objs op e K):sop objs op e' K:=by
 cases op with
 |move x=>simp only[sop] at hs ⊢;rwa [<-h x (by simp[Op.operands])]| assign x=>simp only[sop] at hs ⊢;rwa [<-h x (by simp[Op.operands])]| pick c x y=>simp only[sop] at hs ⊢;rwa [<-h x (by simp[Op.operands]),<-h y (by simp[Op.operands]),<-h c (by simp[Op.operands])]| build t parts=>simp only[sop] at hs ⊢;rwa [<-bJ (e:=e) λx hx=>h x (by grind [Op.operands])]| buildSlice t len parts=>simp only[sop] at hs ⊢;grind [bJ,Op.operands]| load t a=>simp only[sop] at hs ⊢;rwa [<-h a (by simp[Op.operands])]| binOp b t x y yt=>simp only[sop] at hs ⊢;rwa [<-h x (by simp[Op.operands]),<-h y (by simp[Op.operands])]| unOp u t x=>simp only[sop] at hs ⊢;rwa [<-h x (by simp[Op.operands])]| convert s d x=>simp only[sop] at hs ⊢;rwa [<-h x (by simp[Op.operands])]| fieldAddr s x f=>simp only[sop] at hs ⊢;rwa [<-h x (by simp[Op.operands])]| field t x i=>simp only[sop] at hs ⊢;rwa [<-h x (by simp[Op.operands])]| indexAddr t x i=>simp only[sop] at hs ⊢;rwa [<-h x (by simp[Op.operands]),<-h i (by simp[Op.operands])]| index t x i=>simp only[sop] at hs ⊢;rwa [<-h x (by simp[Op.operands]),<-h i (by simp[Op.operands])]| extract x i=>simp only[sop] at hs ⊢;rwa [<-h x (by simp[Op.operands])]| slice t x lo hi mx =>
  have hx:=h x (by simp[Op.operands]);have hlo:∀ d,i7 e d lo=i7 e' d lo:=λd=>X4 λy hy=>h y (by subst hy;simp[Op.operands]);have hhi:∀ d,i7 e d hi=i7 e' d hi:=λd=>X4 λy hy=>h y (by subst hy;simp[Op.operands]);cases mx with
  |some m=>simp only[sop] at hs| none=>simp only[sop] at hs ⊢;simp only[<-hx,<-hlo,<-hhi];exact hs
 |nilCheck x=>simp only[sop] at hs ⊢;rwa [<-h x (by simp[Op.operands])]| makeFunc fn first caps =>
  cases fn with
  |func f =>
   simp only[sop] at hs ⊢;grind [pU,Op.operands]
  |_=>simp only[sop] at hs
 |call c =>
  have hargs:∀ x,x∈c.args.toList->e x=e' x:=λx hx=>h x (by grind [Op.operands,Call.operands]);simp only[sop] at hs ⊢;split at hs;{grind};{grind};{grind}
  all_goals grind [Op.operands,Call.operands,pU]
 |_=>simp only[sop] at hs
theorem Py {n b:Nat}{base x:PV}{K:PV->Prop}(h:J8 n b base x K):∃ pv,K pv/\∀ K':PV->Prop,K' pv->J8 n b base x K':=by unfold J8 at *;grind
theorem Kc {op:Op}{e:Operand->PV}{K:PV->Prop}(h:Sh op e K):∃ (c:Call) (b x:Operand) (t tx:TypeId) (n bb:Nat) (z:List PV),op=.call c/\c.args=#[b,x]/\c.argTypes=#[t,tx]/\iN (ty tx)=true/\ty t=.sli n bb z/\jV (e b)=true/\J8 n bb (e b) (e x) K:=by
 unfold Sh at h;split at h
 ·rename_i c;split at h
  ·rename_i b x t tx hb ht;cases hi:iN (ty tx) with
   |false=>grind| true =>
    rw[hi] at h;simp only at h;split at h
    ·rename_i n bb z h1 h2;refine⟨c,b,x,t,tx,n,bb,z,rfl,?_,?_,hi,h1,h2,h⟩
     all_goals grind
    grind
  grind
 grind
theorem FQ {c:Call}{b x:Operand}{t tx:TypeId}{n bb:Nat}{z:List PV}{e:Operand->PV}{K:PV->Prop}(h1:c.args=#[b,x])(h2:c.argTypes=#[t,tx])(h3:iN (ty tx)=true)(h4:ty t=.sli n bb z)(h5:jV (e b)=true)(h6:J8 n bb (e b) (e x) K):Sh (.call c) e K:=by grind [Sh]
variable {nb:Bool}
theorem F9 {op:Op}{c:Call}(h:UV op=some c):op=.call c/\∃ f,c.callee=.value f:=by unfold UV at h;grind
theorem nW {objs:List (Nat×Obj')}{op:Op}{e:Operand->PV}{K:PV->Prop}(h:iW objs op e K):(UV op=none/\sop objs op e K)\/∃ c f g caps,op=.call c/\c.callee=.value f/\UV op=some c/\e f=.fn g caps/\CallS true objs g (evs e c.args.toList++caps) K:=by
 unfold iW at h;cases hv:UV op with
 |none=>grind| some c =>
  obtain⟨h1,f,h2⟩:=F9 hv;grind
theorem U1 {objs:List (Nat×Obj')}{op:Op}{e:Operand->PV}{K:PV->Prop}{c:Call}{f:Operand}{g:FuncId}{caps:List PV}(hv:UV op=some c)(h2:c.callee=.value f)(he:e f=.fn g caps)(h:CallS true objs g (evs e c.args.toList++caps) K):iW objs op e K:=by grind [iW]
theorem Xz {objs:List (Nat×Obj')}{op:Op}{e:Operand->PV}{K:PV->Prop}(hv:UV op=none)(h:sop objs op e K):iW objs op e K:=by grind [iW]
theorem Rg {objs:List (Nat×Obj')}{op:Op}{e:Operand->PV}{K:PV->Prop}(h:iW objs op e K):∃ pv,K pv/\∀ K':PV->Prop,K' pv->iW objs op e K':=by grind [nW,CG,Xz,JZ,U1]
theorem WO {e e':Operand->PV}:∀ {l:List Operand},(∀ x,x∈l->e x=e' x)->evs e l=evs e' l
 |[],_=>rfl| x::r,h=>by simp only[evs];rw[h x wZ,WO λy hy=>h y (wJ _ hy)]
theorem Hs {objs:List (Nat×Obj')}{op:Op}{e e':Operand->PV}{K:PV->Prop}(h:∀ x,x∈op.operands.toList->e x=e' x)(hs:iW objs op e K):iW objs op e' K:=by rcases nW hs with⟨h1,h2⟩|⟨c,f,g,caps,h1,h2,h3,h4,h5⟩;{grind [Xz,V6]};{subst h1;have hf:e f=e' f:=h f (by simp[Op.operands,Call.operands,h2]);refine U1 h3 h2 (hf ▸ h4) ?_;rw[<-WO (e:=e) (e':=e') λx hx=>h x (by simp only[Op.operands,Call.operands,h2];simp;simp at hx;first|grind|exact .inl hx|exact hx)];exact h5}
theorem Rh {objs:List (Nat×Obj')}{op:Op}{e:Operand->PV}{K:PV->Prop}(h:gO nb objs op e K):∃ pv,K pv/\∀ K':PV->Prop,K' pv->gO nb objs op e K':=by
 unfold gO at *;cases hi:iO op with
 |false =>
  rw[hi] at h;cases nb with
  |true=>exact Rg h| false=>exact CG h
 |true =>
  rw[hi] at h;obtain⟨c,b,x,t,tx,n,bb,z,rfl,h1,h2,h3,h4,h5,h6⟩:=Kc h;grind [Py,FQ]
theorem Jr {op:Op}(h:iO op=true):∃ c,op=.call c/\c.callee=.builtin .append:=by unfold iO at h;grind
theorem Ht {objs:List (Nat×Obj')}{op:Op}{e e':Operand->PV}{K:PV->Prop}(h:∀ x,x∈op.operands.toList->e x=e' x)(hs:gO nb objs op e K):gO nb objs op e' K:=by
 unfold gO at *;cases hi:iO op with
 |false =>
  rw[hi] at hs;cases nb with
  |true=>exact Hs h hs| false=>exact V6 h hs
 |true =>
  rw[hi] at hs;obtain⟨c',hc1,hc2⟩:=Jr hi;obtain⟨c,b,x,t,tx,n,bb,z,rfl,h1,h2,h3,h4,h5,h6⟩:=Kc hs;grind [Op.operands,Call.operands,FQ]
def vS (nb:Bool) (objs:List (Nat×Obj')) (all:List Oper) (o:Oper) (τ:Nat->PV) (pv:PV):Prop :=
 kM all o τ (λ_=>gO nb objs o.op (ev τ) (λv=>Le v pv)) (λ_=>pv=.tup [])
theorem nD {all:List Oper}{o:Oper}{τ:Nat->PV}{A B A' B':Unit->Prop}(hA:A ()->A' ())(hB:B ()->B' ())(h:kM all o τ A B):kM all o τ A' B':=by
 have br:∀ {v:PV} {A B A' B':Unit->Prop},(A ()->A' ())->(B ()->B' ())->brV v A B->brV v A' B':=by intro v A B A' B' hA hB h;unfold brV at *;split at h;{grind};{grind};{exact⟨λe=>hA (h.t e),λe=>hB (h.f e)⟩};{exact⟨λe=>hB (h.t e),λe=>hA (h.f e)⟩};omega
 unfold kM at *;split at h;{grind};{rename_i j want hg;split at h;{rename_i oj hj;split at h;{rename_i d hd;by_cases hu:τ d=.tup [];{rw[hu] at h ⊢;exact hB h};rw[QJ hu] at h ⊢;grind};omega};omega}
theorem mN {objs:List (Nat×Obj')}{all:List Oper}{o:Oper}{τ:Nat->PV}{K:PV->Prop}{K2:Prop}(h:kM all o τ (λ_=>gO nb objs o.op (ev τ) K) (λ_=>K2)):(∃ pv,K pv/\∀ pv',Le pv pv'->vS nb objs all o τ pv')\/(K2/\vS nb objs all o τ (.tup [])):=by
 have pv1:gO nb objs o.op (ev τ) K->∃ pv,K pv/\∀ pv',Le pv pv'->gO nb objs o.op (ev τ) (λv=>Le v pv'):=λhs=>by grind [Rh]
 unfold kM at h;split at h;{grind [vS,kM]}
 ·rename_i j want hg;split at h
  ·rename_i oj hj;split at h
   ·rename_i d hd;by_cases hu:τ d=.tup [];{rw[hu] at h;exact .inr ⟨h,by unfold vS kM;rw[hg];simp only[hj,hd,hu];exact trivial⟩}
    (rw[QJ hu] at h;have st:∀ pv',(if want then brV (τ d) (λ_=>gO nb objs o.op (ev τ) (λv=>Le v pv')) (λ_=>pv'=.tup []) else brV (τ d) (λ_=>pv'=.tup []) (λ_=>gO nb objs o.op (ev τ) (λv=>Le v pv')))->vS nb objs all o τ pv':=by grind [vS,kM,QJ]);have br:∀ {v:PV} {A:Prop},brV v (λ_=>A) (λ_=>K2)->(A/\∀ X Y:Unit->Prop,X ()->brV v X Y)\/(K2/\∀ X Y:Unit->Prop,Y ()->brV v X Y):=by
     intro v A hb;unfold brV at *;cases v with
     |tt=>grind| ff=>grind| bool b =>
      cases hv:b () with
      |true=>exact .inl ⟨hb.t hv,λ_ _ q=>⟨λ_=>q,λe=>by grind⟩⟩| false=>exact .inr ⟨hb.f hv,λ_ _ q=>⟨λe=>(by grind),λ_=>q⟩⟩
     |nbool b =>
      cases hv:b () with
      |true=>exact .inr ⟨hb.t hv,λ_ _ q=>⟨λ_=>q,λe=>by grind⟩⟩| false=>exact .inl ⟨hb.f hv,λ_ _ q=>⟨λe=>(by grind),λ_=>q⟩⟩
     |_=>exact hb.elim
    have br':∀ {v:PV} {A:Prop},brV v (λ_=>K2) (λ_=>A)->(A/\∀ X Y:Unit->Prop,Y ()->brV v X Y)\/(K2/\∀ X Y:Unit->Prop,X ()->brV v X Y):=by
     intro v A hb;unfold brV at *;cases v with
     |tt=>grind| ff=>grind| bool b =>
      cases hv:b () with
      |true=>exact .inr ⟨hb.t hv,λ_ _ q=>⟨λ_=>q,λe=>by grind⟩⟩| false=>exact .inl ⟨hb.f hv,λ_ _ q=>⟨λe=>(by grind),λ_=>q⟩⟩
     |nbool b =>
      cases hv:b () with
      |true=>exact .inl ⟨hb.t hv,λ_ _ q=>⟨λ_=>q,λe=>by grind⟩⟩| false=>exact .inr ⟨hb.f hv,λ_ _ q=>⟨λe=>(by grind),λ_=>q⟩⟩
     |_=>exact hb.elim
    cases want with
    |true =>
     simp only[cond_true] at h;rcases br h with⟨hA,hX⟩|⟨h2,hY⟩
     all_goals grind
    |false =>
     simp only[cond_false] at h;rcases br' h with⟨hA,hX⟩|⟨h2,hY⟩
     all_goals grind
   grind
  grind
theorem m5 {all:List Oper}{o:Oper}{ps:PS}{pv:PV}{K:PS->Prop}(h:iK all o (put ps o.dst pv) K):∃ pv' ps',Le pv pv'/\K ps'/\ps'.objs=ps.objs/\zD ps'.tmps=upd (zD ps.tmps) o.dst pv':=by
 unfold iK at h;cases hg:isG all o with
 |false=>simp only[hg,cond_false] at h;grind [Le.refl,kH,xL]| true =>
  simp only[hg,cond_true] at h;split at h
  ·(rename_i d hd;have hpv:zD (put ps o.dst pv).tmps d=pv:=by rw[xL,hd];simp[upd]);have fin:∀ x,zD (v4 (put ps o.dst pv).tmps d x)=upd (zD ps.tmps) o.dst x:=by grind [gR,xL,upd]
   rw[hpv] at h;split at h
   ·rename_i b;cases hv:b () with
    |true=>exact⟨.tt,_,by grind [Le],h.t hv,kH _ _ _,fin _⟩| false=>exact⟨.ff,_,by grind [Le],h.f hv,kH _ _ _,fin _⟩
   ·rename_i b;cases hv:b () with
    |true=>exact⟨.ff,_,by grind [Le],h.t hv,kH _ _ _,fin _⟩| false=>exact⟨.tt,_,by grind [Le],h.f hv,kH _ _ _,fin _⟩
   grind [Le.refl,kH,xL]
  grind [Le.refl,kH,xL]
theorem mO {objs:List (Nat×Obj')}{all:List Oper}{o:Oper}{τ τ':Nat->PV}{pv:PV}(h:∀ t,t∈qY all o->τ t=τ' t)(hs:vS nb objs all o τ pv):vS nb objs all o τ' pv:=by
 have hop:∀ x,x∈o.op.operands.toList->ev τ x=ev τ' x:=by
  intro x hx;cases x with
  |tmp t=>exact h t (by unfold qY;grind)| _=>rfl
 have hs':kM all o τ (λ_=>gO nb objs o.op (ev τ') (λv=>Le v pv)) (λ_=>pv=.tup []):=nD (λh=>Ht hop h) id hs;unfold vS;unfold kM at hs' ⊢;split at hs'
 all_goals grind [qY]
def uN:List Oper->List PV->(Nat->PV)->(Nat->PV)
 |o::l,v::vs,τ=>uN l vs (upd τ o.dst v)| _,_,τ=>τ
theorem KG {all:List Oper}{K:PS->Prop}:∀ (l:List Oper) {ps:PS},ZJ nb all l ps K->∃ pvs ps',pvs.length=l.length/\K ps'/\ps'.objs=ps.objs/\zD ps'.tmps=uN l pvs (zD ps.tmps) /\ ∀ i o pv,l[i]?=some o->pvs[i]?=some pv->vS nb ps.objs all o (uN (l.take i) (pvs.take i) (zD ps.tmps)) pv
 |[],ps,h=>⟨[],ps,rfl,h,rfl,rfl,λi o pv h=>by simp at h⟩| o::r,ps,h=>by
  simp only[ZJ] at h;obtain⟨pv,ps1,h1,ho1,ht1,h2⟩:∃ pv ps1,ZJ nb all r ps1 K/\ps1.objs=ps.objs/\zD ps1.tmps=upd (zD ps.tmps) o.dst pv/\vS nb ps.objs all o (zD ps.tmps) pv:=by
   rcases mN h with⟨pv,q1,q2⟩|⟨q1,q2⟩
   all_goals grind [m5,kH,xL]
  obtain⟨pvs,ps',g1,g2,g3,g4,g5⟩:=KG r h1;refine⟨pv::pvs,ps',by simp[g1],g2,g3.trans ho1,by rw[g4,ht1];rfl,λi o' pv' hi hp=>?_⟩;cases i with
  |zero =>
   simp only[rV,rF] at hi hp;subst hi hp;exact h2
  |succ i =>
   simp only[aA] at hi hp;have:=g5 i o' pv' hi hp;rw[ho1,ht1] at this;exact this
theorem KH {objs objs':List (Nat×Obj')}{op:Op}{e:Operand->PV}{K:PV->Prop}(hx:∀ n o,yK objs n=some o->yK objs' n=some o)(h:sop objs op e K):sop objs' op e K:=by
 cases op with
 |load t a =>
  unfold sop at h ⊢;simp only at h ⊢;split at h;{exact h}
  ·rename_i n off he;cases ho:yK objs n with
   |none=>grind| some o =>
    rw[ho] at h;rw[hx _ _ ho];cases o with
    |box cs=>exact Bz hx h| _=>exact h.elim
  all_goals grind
 |makeFunc fn first caps=>cases fn <;> exact h
 |slice t x lo hi mx=>cases mx <;> exact h
 |_=>exact h
theorem Zl {objs objs':List (Nat×Obj')}{h:Nat->Nat}(hx:∀ n o,yK objs n=some o->yK objs' n=some o):∀ {l:List (Nat×Obj')},uH h objs l->uH h objs' l
 |[],_=>trivial| (n,o)::r,H=>⟨⟨hx _ _ H.1.1,H.1.2⟩,Zl hx H.2⟩
theorem Dk {objs objs':List (Nat×Obj')}{op:Op}{e:Operand->PV}{K:PV->Prop}(hx:∀ n o,yK objs n=some o->yK objs' n=some o)(h:iW objs op e K):iW objs' op e K:=by rcases nW h with⟨h1,h2⟩|⟨c,f,g,caps,h1,h2,h3,h4,h5⟩;{grind [Xz,KH]};{refine U1 h3 h2 h4 ?_;rcases h5.h with q|⟨hb,hn,cargs,kept,r,q1,q2,q3,q4⟩;{exact⟨.inl q⟩};{exact⟨.inr ⟨hb,hn,cargs,kept,r,q1,q2,Zl hx q3,q4⟩⟩}}
theorem V7 {objs objs':List (Nat×Obj')}{op:Op}{e:Operand->PV}{K:PV->Prop}(hx:∀ n o,yK objs n=some o->yK objs' n=some o)(h:gO nb objs op e K):gO nb objs' op e K:=by
 unfold gO at *;cases hi:iO op with
 |false =>
  rw[hi] at h;cases nb with
  |true=>exact Dk hx h| false=>exact KH hx h
 |true=>grind
theorem Hu {objs objs':List (Nat×Obj')}{o:Oper}{e:Operand->PV}{K:PV->Prop}(hb:FO o=true)(h:gO false objs o.op e K):gO false objs' o.op e K:=by
 unfold gO at *;cases hi:iO o.op with
 |true=>grind| false =>
  rw[hi] at h;simp only at h ⊢;unfold FO at hb;unfold sop at h ⊢;generalize o.op=op at *;cases op with
  |load t a=>cases hb
  |makeFunc fn first caps=>cases fn <;> exact h
  |slice t x lo hi mx=>cases mx <;> exact h
  |_=>exact h
def Xx (nb:Bool) (objs:List (Nat×Obj')) (all:List Oper) (o:Oper) (τ:Nat->PV) (pv:PV):Prop :=
 match vK o with
 |some (d,_)=>pv=.ptr d 0| none=>vS nb objs all o τ pv
theorem fJ {o:Oper}{d:Nat}{x:Obj'}(h:vK o=some (d,x)):o.guard=none/\o.dst=some d/\∃ t,o.op=.alloc t/\(ty t).isNo=false/\x=.box (ty t).zero:=by unfold vK at h;grind
theorem Rf {objs:List (Nat×Obj')}{all:List Oper}{o:Oper}{τ:Nat->PV}{pv:PV}(h:vS nb objs all o τ pv):vK o=none/\Xx nb objs all o τ pv:=by
 cases hm:vK o with
 |none=>exact⟨rfl,by grind [Xx]⟩| some x =>
  obtain⟨d,x⟩:=x;obtain⟨hg,hd,t,ht,hn,hx⟩:=fJ hm;unfold vS kM at h;rw[hg] at h;simp only[ht] at h;unfold gO iO at h;simp only at h;cases nb with
  |true =>
   simp only[iW,UV] at h;unfold sop at h;exact h.elim
  |false =>
   simp only at h;unfold sop at h;exact h.elim
theorem DE {all:List Oper}{K:PS->Prop}:∀ (l:List Oper) {ps:PS},tK all l ps K->∃ pvs ps',pvs.length=l.length/\K ps'/\ps'.objs=ps.objs/\zD ps'.tmps=uN l pvs (zD ps.tmps) /\ ∀ i o pv,l[i]?=some o->pvs[i]?=some pv->Xx true ps.objs all o (uN (l.take i) (pvs.take i) (zD ps.tmps)) pv
 |[],ps,h=>⟨[],ps,rfl,h,rfl,rfl,λi o pv h=>by simp at h⟩| o::r,ps,h=>by
  obtain⟨pv,ps1,h1,ho1,ht1,h2⟩:∃ pv ps1,tK all r ps1 K/\ps1.objs=ps.objs/\zD ps1.tmps=upd (zD ps.tmps) o.dst pv/\Xx true ps.objs all o (zD ps.tmps) pv:=by
   cases hm:vK o with
   |some x =>
    obtain⟨d,x⟩:=x;simp only[tK,hm] at h;obtain⟨hg,hd,_⟩:=fJ hm;exact⟨.ptr d 0,_,h,kH _ _ _,by rw[xL,hd],by grind [Xx]⟩
   |none =>
    simp only[tK,hm] at h;rcases mN h with⟨pv,q1,q2⟩|⟨q1,q2⟩
    all_goals grind [m5,Rf,kH,xL]
  obtain⟨pvs,ps',g1,g2,g3,g4,g5⟩:=DE r h1;refine⟨pv::pvs,ps',by simp[g1],g2,g3.trans ho1,by rw[g4,ht1];rfl,λi o' pv' hi hp=>?_⟩;cases i with
  |zero =>
   simp only[rV,rF] at hi hp;subst hi hp;exact h2
  |succ i =>
   simp only[aA] at hi hp;have:=g5 i o' pv' hi hp;rw[ho1,ht1] at this;exact this
theorem Kx:∀ {l:List Oper} {pvs:List PV} {τ:Nat->PV} {j t:Nat} {o:Oper} {pv:PV},dU l=true->l[j]?=some o->pvs[j]?=some pv->o.dst=some t->uN l pvs τ t=pv
 |o'::r,v::vs,τ,0,t,o,pv,hd,hl,hp,ht=>by
  simp only[rV,rF] at hl hp;subst hl hp;simp only[dU,yS,ht] at hd;have:∀ (l:List Oper) (vs:List PV) (τ:Nat->PV),(l.all λx=>!(x.dst == some t))=true->uN l vs τ t=τ t:=by
   intro l;induction l with
   |nil=>intro vs τ _;cases vs <;> rfl
   |cons x l ih =>
    intro vs τ h;cases vs with
    |nil=>rfl| cons v vs =>
     simp only[YO,yS] at h;simp only[uN];rw[ih vs _ h.2];cases hx:x.dst with
     |none=>rfl| some d =>
      (have:d≠t:=by grind);simp[upd,Ne.symm this]
  simp only[uN];rw[this r vs _ hd.1];simp[upd,ht]
 |o'::r,v::vs,τ,j+1,t,o,pv,hd,hl,hp,ht=>by simp only[aA] at hl hp;simp only[dU,yS] at hd;simp only[uN];exact Kx hd.2 hl hp ht| [],_,_,_,_,_,_,_,hl,_,_=>by grind| _::_,[],_,_,_,_,_,_,_,hp,_=>by grind
theorem VY:∀ {l:List Oper} {pvs:List PV} {τ:Nat->PV} {t:Nat},(∀ (j:Nat) (o:Oper),l[j]?=some o->o.dst≠some t)->uN l pvs τ t=τ t
 |o::r,v::vs,τ,t,h=>by
  simp only[uN];rw[VY λj o' hj=>h (j+1) o' (by grind)];have:=h 0 o (by simp);cases hx:o.dst with
  |none=>rfl| some d =>
   (have hne:d≠t:=by grind);simp[upd,Ne.symm hne]
 |[],_,_,_,_=>by simp[uN]| _::_,[],_,_,_=>by simp[uN]
theorem YH:∀ {l:List Oper} (k:Nat),dU l=true->dU (l.take k)=true
 |[],k,_=>by grind| o::r,0,_=>rfl| o::r,k+1,h=>by simp only[FW,dU,yS] at h ⊢;refine⟨?_,YH k h.2⟩;grind
theorem pW:∀ {l:List Oper} {i j:Nat} {o o':Oper} {t:Nat},dU l=true->l[i]?=some o->l[j]?=some o'->o.dst=some t->o'.dst=some t->i=j
 |x::r,0,0,o,o',t,_,_,_,_,_=>rfl| x::r,0,j+1,o,o',t,h,hi,hj,ht,ht'=>by simp only[rV,rF] at hi;simp only[aA] at hj;subst hi;simp only[dU,yS,ht,gH] at h;grind| x::r,i+1,0,o,o',t,h,hi,hj,ht,ht'=>by simp only[rV,rF] at hj;simp only[aA] at hi;subst hj;simp only[dU,yS,ht',gH] at h;grind| x::r,i+1,j+1,o,o',t,h,hi,hj,ht,ht'=>by simp only[aA] at hi hj;simp only[dU,yS] at h;rw[pW h.2 hi hj ht ht']| [],_,_,_,_,_,_,hi,_,_,_=>by grind
end Go.Proofs.YtboocdbmnfjomaaGreat
