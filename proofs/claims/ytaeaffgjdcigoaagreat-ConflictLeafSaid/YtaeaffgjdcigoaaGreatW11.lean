/- A part of the proof: PmN, PmO. -/
import Derived.Test.YtaeaffgjdcigoaaGreatW10
set_option linter.all false
namespace Go.Proofs.YtaeaffgjdcigoaaGreat
open Go
section
variable {w0:World} {S0:Nat->Nat->Prop} {K0:Nat->Prop} {N:Cx} {τ:Nat->PV} {objs:List (Nat×Obj')} {a:Act} {w w':World} {S S':Nat->Nat->Prop} {β:Bm}
theorem sZ {o:Oper}{ps:PS}{K:PS->Prop}{Km:Act->World->Prop}{Q:Exit->Act->World->Prop}(h:Sim w0 S0 K0 N (zE ps.tmps) ps.objs a w S β)(hs:pY o ps K)(hd:∀ t,o.dst=some t->t<N) (hk:∀ ps' a' w' S' β',K ps'->Sim w0 S0 K0 N (zE ps'.tmps) ps'.objs a' w' S' β'->Km a' w'):o.wp Pg a w Km Q:=by
 have hsop:sop ps.objs o.op (ev (zE ps.tmps)) (λv=>K (put ps o.dst v))->o.wp Pg a w Km Q:=λhs =>
  ZG h hs λpv w' S' v hK l hr=>hk _ _ _ _ _ hK (w7 (h.go l) o.dst hd hr)
 unfold pY at hs;split at hs;{rename_i t ad hop;split at hs;{obtain⟨ps',hw,hs⟩:=hs.h;obtain⟨S1,β1,h1⟩:=hw.sound h;exact ZG h1 (by grind) λpv w' S' v hK l hr=>hk _ _ _ _ _ hK (w7 (h1.go l) o.dst hd hr)};grind}
 ·rename_i t hop;split at hs
  ·rename_i d hod;cases hno:(ty t).isNo with
   |true=>grind| false =>
    simp only[hno,cond_false] at hs;obtain⟨i,zv,h1,h2,h3⟩:=H4 (w:=w) (S:=S) (β:=β) hno;have hz:wN d (ty t).zero=true:=by
     cases hty:ty t with
     |no=>grind [Ty.isNo]| sc z=>obtain⟨_,_,zv',_,_,_,_,_,_,h7,_⟩:=Xp hty;rw[h7];simp only[Ty.zero,wN,yT,Bool.and_true];unfold wU;split <;> rfl
     |st n fs z =>
      obtain⟨_,_,zs,_,_,_,_,_,_,h7,_⟩:=Xo hty;rw[h7];simp only[Ty.zero];generalize zs.toList=l;induction l with
      |nil=>rfl| cons x l ih=>simp only[jH,wN,yT,yP];exact⟨by unfold wU;split <;> rfl,ih⟩
     |arr len n ag z =>
      obtain⟨_,_,zs,_,_,_,_,_,_,_,_,_,_,h7⟩:=iJ hty;rw[h7];simp only[Ty.zero];generalize zs.toList=l;induction l with
      |nil=>rfl| cons x l ih=>simp only[jH,wN,yT,yP];exact⟨by unfold wU;split <;> rfl,ih⟩
     |sli n b z=>rfl
    refine oX (T:=t) hod (hd d hod) h hs h3 ?_ hk hz;simp[execOp,hop,Instr.alloc,pO h1 h2,newVar,newRow]
  grind
 ·rename_i t x hop;split at hs
  ·rename_i d hod;cases hp:gY (ev (zE ps.tmps) x) with
   |false=>grind| true =>
    simp only[hp,cond_true] at hs;have hr:=h.eval x;have hz:yQ d ps=true->wN d (yS (ev (zE ps.tmps) x))=true:=by
     intro hf;simp only[yQ,yP] at hf;have hx:xZ d (ev (zE ps.tmps) x)=true:=by
      cases x with
      |tmp t=>exact qK hf.1 t| const v=>simp only[ev];unfold wU;split <;> rfl
      |global g=>rfl| func f=>rfl
     generalize ev (zE ps.tmps) x=y at hx hp;cases y with
     |agg cs =>
      have:∀ (l:List PV),yT (rf1 d) l=true->wN d l=true:=by
       intro l;induction l with
       |nil=>intro _;rfl
       |cons c l ih =>
        intro hl;simp only[yT,yP] at hl;simp only[wN,yT,yP];refine⟨?_,ih hl.2⟩;have h1:=hl.1;have up:∀ (l:List PV),yT (rf0 d) l=true->yT (rf1 d) l=true:=by
         intro l;induction l with
         |nil=>intro _;rfl
         |cons e l ih2 =>
          intro hl;simp only[yT,yP] at hl ⊢;exact⟨by cases e <;> first|(simp[rf0] at hl;done)|exact hl.1,ih2 hl.2⟩
        cases c <;> first|exact h1|exact up _ h1
      exact this cs hx
     |tup cs=>grind [gY,t9]| _=>simpa only [yS,wN,yT,Bool.and_true] using hx
    (have hfree:yQ d ps=true:=by grind [ZO]);refine oX (T:=t) hod (hd d hod) h hs (fL hr hp) ?_ hk (hz hfree)
    simp[execOp,hop,Instr.box,newVar,newRow]
  grind
 ·rename_i t ad vl hop;split at hs
  ·rename_i n off ha;split at hs
   ·rename_i cs ho;cases hc:(nqb (yS (ev (zE ps.tmps) vl)).length (ty t).cells&&nle (off+(ty t).cells) cs.length&&nlt 0 (ty t).cells&&yT t9 (yS (ev (zE ps.tmps) vl))) with
    |false=>grind| true =>
     simp only[hc,cond_true] at hs;simp only[yP] at hc;exact Fw hop hd h ha ho (y5 hc.1.1.1) (mW hc.1.1.2) (by simp_all) hc.2 hs hk
   grind
  ·rename_i n s i off ha;split at hs
   ·rename_i s' els ho;cases hc:(nqb s s'&&nqb (yS (ev (zE ps.tmps) vl)).length (ty t).cells&&nle (off+(ty t).cells) s&&nlt 0 (ty t).cells&&yT Zm (yS (ev (zE ps.tmps) vl))) with
    |false=>grind| true =>
     simp only[hc,cond_true] at hs;simp only[yP] at hc;have:=y5 hc.1.1.1.1;subst this;exact Fx hop hd h ha ho (y5 hc.1.1.1.2) (mW hc.1.1.2) (by simp_all) hc.2 hs hk
   {exact hs.elim};grind
  grind
 ·rename_i t len parts hop;split at hs
  ·rename_i d n b z hod ht;cases hor:CP (rW n (vO (ev (zE ps.tmps)) parts.toList) (pT z len)) with
   |none =>
    rw[hor] at hs;cases he:(nqb len 0&&U9 parts.toList) with
    |false =>
     simp only[he] at hs;split at hs
     ·rename_i cs hap;cases hc:(nqb cs.length len&&nqb n 1&&nle len 1000&&yQ d ps&&wN d cs) with
      |false=>grind| true =>
       simp only[hc] at hs;simp only[yP] at hc;have e1:=y5 hc.1.1.1.2;exact Vr hop hod (hd d hod) h ht e1 (e1 ▸ hap) (y5 hc.1.1.1.1) (by simp_all) hc.1.2 hc.2 hs hk
     cases hfm:N1 z with
     |false=>grind| true =>
      simp only[hfm] at hs;split at hs
      ·rename_i els hfe;cases hc:(nle (len*n) 1000&&nD els) with
       |false=>grind| true =>
        simp only[hc] at hs;rcases hs.h with hs|⟨hfr,hs⟩;{refine hsop ?_;rw[hop];simp only[sop,ht,hfe,hc];grind};{simp only[yP] at hc;exact WO hop hod (hd d hod) h ht hfe (mW hc.1) hc.2 hfr hs hk}
      grind
    |true =>
     simp only[he] at hs;simp only[yP] at he;cases hfr:yQ d ps with
     |false=>grind| true=>simp only[hfr] at hs;exact QK hop hod (hd d hod) h ht (y5 he.1) he.2 hfr hs hk
   |some p =>
    simp only[hor] at hs
  grind
 ·rename_i t l c hop;split at hs
  ·rename_i n b z d x y ht hod hl hc;obtain⟨hR,hM,hs⟩:=hs;cases hf:(yQ d ps&&yT Zm z) with
   |false=>grind| true =>
    simp only[hf,cond_true] at hs;simp only[yP] at hf;exact Hv hop hod (hd d hod) h ht hl hc hR hM hf.1 hf.2 hs hk
  grind
 ·rename_i c hop;split at hs;{rename_i g hcl;obtain⟨ps',hw,f,caps,hf,hs⟩:=hs.h;obtain⟨S1,β1,h1⟩:=hw.sound h;rcases hs with⟨args',r,hle,hso,hnm,hK⟩|⟨hn,cargs,kept,eaten,r,kept',made,hle,hso,hobj,hnd1,hnd2,hclo,hnd3,hfree,hlv,hlr,hnm,hK⟩;{exact nF hop hcl h1 hf ⟨args',r,hle,hso,hnm,hK⟩ λpv w' S' v hK' l hr=>hk _ _ _ _ _ hK' (w7 (h1.go l) o.dst hd hr)};{exact Jo hop hcl hd h1 hf hle hso hobj hnd1 hnd2 hclo hnd3 hfree hlv hlr hnm hK hk}}
  ·rename_i hcl;split at hs
   ·rename_i b x t tx ha ht;cases htx:Zc (ty tx) with
    |false=>grind| true =>
     simp only[htx,cond_true] at hs;rcases hs.h with hs|hs
     case inr =>
      exact hs.h.elim
     obtain⟨ps',d,nm,n,b',z,xs,hw,hod,hty,hx,hwid,hs⟩:=hs.h;obtain⟨S1,β1,h1⟩:=hw.sound h;exact Dr hop hcl (by grind) (by grind) htx hod (hd d hod) h1 hty hx hwid hs hk
   grind
  all_goals grind
 ·rename_i t hop;split at hs
  ·rename_i d hod;cases hf:yQ d ps with
   |false=>grind| true=>simp only[hf] at hs;exact Vo hop hod (hd d hod) h hs.1 hf hs.2 hk
  grind
 ·rename_i t m x hop;split at hs
  ·rename_i n k hm hx;split at hs
   ·rename_i t' ks ho;cases ht:nqb t t' with
    |false=>grind| true =>
     simp only[ht] at hs;have e:=y5 ht;subst e;exact Qh hop hd h hm hx ho hs.1 hs.2 hk
   grind
  grind
 ·rename_i t m x v hop;split at hs
  ·rename_i n k hm hx hv;split at hs
   ·rename_i t' ks ho;cases ht:nqb t t' with
    |false=>grind| true =>
     simp only[ht] at hs;have e:=y5 ht;subst e;exact YJ hop hd h hm hx hv ho hs.1 hs.2.1 hs.2.2 hk
   grind
  grind
 {rename_i t x yt hop;split at hs;{rename_i n b z els ht hx;have hr:=h.eval x;rw[hx] at hr;obtain⟨pv,val,h1,h2,h3⟩:=Qc (w:=w) (S:=S) (β:=β) (x:=x) ht hr hs;refine jC (v:=val) (w':=w) ?_ (hk _ _ _ _ _ h1 (w7 h o.dst hd h3));simp only[execOp,hop,Sem.run_bind] at h2 ⊢;have:a.eval (.const (.slice none 0 0))=.slice none 0 0:=rfl;simp_all};{rename_i n b z m s oo len ht hx;have hr:=h.eval x;rw[hx] at hr;obtain⟨pv,val,h1,h2,h3⟩:=Qb (w:=w) (S:=S) (β:=β) (x:=x) ht hr hs;refine jC (v:=val) (w':=w) ?_ (hk _ _ _ _ _ h1 (w7 h o.dst hd h3));simp only[execOp,hop,Sem.run_bind] at h2 ⊢;have:a.eval (.const (.slice none 0 0))=.slice none 0 0:=rfl;simp_all};{rename_i n b z ht hx;have hr:=h.eval x;rw[hx] at hr;have h2:=Hs (w:=w) (x:=x) ht;refine jC (v:=.bool true) (w':=w) ?_ (hk _ _ _ _ _ hs (w7 h o.dst hd (pS (λ_=>true))));simp only[execOp,hop,Sem.run_bind] at h2 ⊢;have:a.eval (.const (.slice none 0 0))=.slice none 0 0:=rfl;simp[this,fS hr,h2]};grind};{rename_i t x yt hop;split at hs;{rename_i n b z els ht hx;have hr:=h.eval x;rw[hx] at hr;obtain⟨pv,val,h1,h2,h3⟩:=Vm (K:=λv=>K (put ps o.dst v)) (w:=w) (S:=S) (β:=β) (x:=x) ht hr hs;refine jC (v:=val) (w':=w) ?_ (hk _ _ _ _ _ h1 (w7 h o.dst hd h3));simp only[execOp,hop,Sem.run_bind] at h2 ⊢;have:a.eval (.const (.slice none 0 0))=.slice none 0 0:=rfl;simp_all};{rename_i n b z m s oo len ht hx;have hr:=h.eval x;rw[hx] at hr;obtain⟨pv,val,h1,h2,h3⟩:=Vl (K:=λv=>K (put ps o.dst v)) (w:=w) (S:=S) (β:=β) (x:=x) ht hr hs;refine jC (v:=val) (w':=w) ?_ (hk _ _ _ _ _ h1 (w7 h o.dst hd h3));simp only[execOp,hop,Sem.run_bind] at h2 ⊢;have:a.eval (.const (.slice none 0 0))=.slice none 0 0:=rfl;simp_all};{rename_i n b z ht hx;have hr:=h.eval x;rw[hx] at hr;have h2:=KA (w:=w) (x:=x) ht;refine jC (v:=.bool false) (w':=w) ?_ (hk _ _ _ _ _ hs (w7 h o.dst hd (mS (λ_=>true))));simp only[execOp,hop,Sem.run_bind] at h2 ⊢;have:a.eval (.const (.slice none 0 0))=.slice none 0 0:=rfl;simp[this,fS hr,h2]};grind};grind
theorem Qs {want:Bool}{v:PV}{A B:Unit->Prop}(h:v≠.tup []):gdV want v A B=(match want with|true=>brV v A B|false=>brV v B A):=by unfold gdV;grind
theorem YR (w:World)(S:Nat->Nat->Prop)(β:Bm):Rep w S β undef (.tup []):=.tup rfl λj hj=>absurd hj (by simp)
theorem aT {ops:List Oper}{o:Oper}{A B:Unit->Prop}(ht:∀ t,Rep w S β (a.tmps.getD t undef) (τ t))(h:gH ops o τ A B):(Region.wanted o (yielded ops.toArray a.tmps)=true/\A ())\/(Region.wanted o (yielded ops.toArray a.tmps)=false/\B ()):=by
 unfold gH at h;split at h;{rename_i hg;exact .inl ⟨by simp[Region.wanted,hg],h⟩}
 ·rename_i j want hg;split at h
  ·rename_i oj hj;split at h
   ·rename_i d hd;have key:∀ b,a.tmps.getD d undef=.bool b->Region.wanted o (yielded ops.toArray a.tmps)=(b == want):=by
     intro b hb;have hlt:a.tmps[d]?=some (.bool b):=by
      cases hx:a.tmps[d]? with
      |none =>
       (have:a.tmps.getD d undef=undef:=by simp[hx]);rw[this] at hb
       cases hb
      |some v =>
       simp_all
     grind [Region.wanted,yielded]
    by_cases hu:τ d=.tup []
    ·have hr:=ht d;rw[hu] at hr h;refine .inr ⟨?_,h⟩;have hv:∀ b,a.tmps.getD d undef≠.bool b:=by
      intro b hb;rw[hb] at hr;cases hr with
      |c hf _=>cases hf
     cases hx:a.tmps[d]? with
     |none=>grind [Region.wanted,yielded]| some v =>
      (have e:a.tmps.getD d undef=v:=by simp[hx]);cases v with
      |bool b=>grind| _=>simp[Region.wanted,hg,yielded,hj,hd,hx]
    rw[Qs hu] at h;cases want with
    |true =>
     simp only[cond_true] at h;obtain⟨b,hb,h1,h2⟩:=Z9 (ht d) h;grind
    |false =>
     simp only[cond_false] at h;obtain⟨b,hb,h1,h2⟩:=Z9 (ht d) h;grind
   grind
  grind
theorem Yr {ops:List Oper}{o:Oper}{ps:PS}{K:PS->Prop}(h:Sim w0 S0 K0 N (zE ps.tmps) ps.objs a w S β)(hs:XT ops o ps K):∃ ps',K ps'/\Sim w0 S0 K0 N (zE ps'.tmps) ps'.objs a w S β:=by
 unfold XT at hs;cases hg:isG ops o with
 |false=>grind| true =>
  simp only[hg,cond_true] at hs;split at hs
  ·rename_i d hd;have hr:=h.tmp d;split at hs
   ·rename_i b hb;rw[hb] at hr;cases hv:b () with
    |true=>exact⟨_,hs.t hv,h.setT (hr.le .tt (by grind [Le]))⟩| false=>exact⟨_,hs.f hv,h.setT (hr.le .ff (by grind [Le]))⟩
   ·rename_i b hb;rw[hb] at hr;cases hv:b () with
    |true=>exact⟨_,hs.t hv,h.setT (hr.le .ff (by grind [Le]))⟩| false=>exact⟨_,hs.f hv,h.setT (hr.le .tt (by grind [Le]))⟩
   grind
  grind
def nB (N:Nat) (o:Oper):Bool :=
 match o.dst with
 |none=>true| some d=>decide (d<N)
theorem nA {o:Oper}(h:nB N o=true):∀ t,o.dst=some t->t<N:=by grind [nB]
theorem rR {ops:List Oper}{Q:Exit->Act->World->Prop}{K:PS->Prop}(hk:∀ ps' a' w' S' β',K ps'->Sim w0 S0 K0 N (zE ps'.tmps) ps'.objs a' w' S' β'->Q .normal a' w'):∀ (l:List Oper) {ps:PS} {a:Act} {w:World} {S:Nat->Nat->Prop} {β:Bm},(∀ o,o∈l->nB N o=true)->Sim w0 S0 K0 N (zE ps.tmps) ps.objs a w S β->jE ops l ps K->wpList Pg ops.toArray Q l a w
 |[],ps,a,w,S,β,_,h,hs=>hk _ _ _ _ _ hs h| o::r,ps,a,w,S,β,hd,h,hs=>by simp only[jE] at hs;simp only[wpList];have hdo:=nA (hd o wI);rcases aT h.tmp hs with⟨hw,hA⟩|⟨hw,hB⟩;{rw[if_pos hw];exact .inl (sZ h hA hdo λps' a' w' S' β' hK hsim=>by obtain⟨ps'',hK',hsim'⟩:=Yr hsim hK;exact rR hk r (λo ho=>hd o (wJ _ ho)) hsim' hK')};{rw[if_neg (by grind)];exact rR hk r (λo ho=>hd o (wJ _ ho)) (w7 h o.dst hdo (YR _ _ _)) hB}
end
section
variable {K:PV->Prop}
theorem ME {v x y:PV}(h:brV v (λ_=>K x) (λ_=>K y)):∃ pv,K pv/\∀ K':PV->Prop,K' pv->brV v (λ_=>K' x) (λ_=>K' y):=by
 unfold brV at *;split at h;{grind};{grind}
 ·rename_i b;cases hb:b () with
  |true=>exact⟨x,h.t hb,λ_ q=>⟨λ_=>q,λe=>by grind⟩⟩| false=>exact⟨y,h.f hb,λ_ q=>⟨λe=>(by grind),λ_=>q⟩⟩
 ·rename_i b;cases hb:b () with
  |true=>exact⟨y,h.t hb,λ_ q=>⟨λ_=>q,λe=>by grind⟩⟩| false=>exact⟨x,h.f hb,λ_ q=>⟨λe=>(by grind),λ_=>q⟩⟩
 grind
theorem ZL {t:Ty}{cs:List PV}{off:Nat}(h:rdK t cs off K):∃ pv,K pv/\∀ K':PV->Prop,K' pv->rdK t cs off K':=by unfold rdK at *;grind
theorem QO {k:IntKind}{z:Unit->Int}(h:arK k z K):∃ pv,K pv/\∀ K':PV->Prop,K' pv->arK k z K':=by unfold arK at *;grind
theorem Rd {op:BinOp}{k k':IntKind}{a b:Unit->Int}(h:F0 op k a k' b K):∃ pv,K pv/\∀ K':PV->Prop,K' pv->F0 op k a k' b K':=by
 unfold F0 at *;split at h;{grind};{grind}
 ·cases hk:Gg k k' with
  |false=>grind| true =>
   simp only[hk,cond_true] at h ⊢;split at h;{exact QO h};{exact QO h};{exact QO h}
   all_goals grind
end
theorem Sc {K:PV->Prop}{bop:BinOp}{a b:Unit->ByteArray}(h:Fv bop a b K):∃ pv,K pv/\∀ K':PV->Prop,K' pv->Fv bop a b K':=by unfold Fv at *;grind
theorem RG {K:PV->Prop}{bop:BinOp}{t:TypeId}{x y:Operand}{u v:PV}(h:Dk bop t x y u v K):∃ pv,K pv/\∀ K':PV->Prop,K' pv->Dk bop t x y u v K':=by
 unfold Dk at *;split at h;{exact Rd h};{exact Sc h};{split at h;{obtain⟨r,h1,h2⟩:=h.h;exact⟨_,h2,λ_ q=>⟨⟨r,h1,q⟩⟩⟩};grind}
 ·split at h;{grind}
  all_goals grind
theorem T7 {objs:List (Nat×Obj')}{v:PV}{K:PV->Prop}(h:ldV objs v K):∃ pv,K pv/\∀ K':PV->Prop,K' pv->ldV objs v K':=by
 unfold ldV at *;cases hn:lnt objs v with
 |false=>grind| true =>
  rw[hn] at h;rcases h.h with hK|⟨n,s,els,h1,h2,h3⟩;{exact⟨v,hK,λK' q=>⟨.inl q⟩⟩};{exact⟨_,h3,λK' q=>⟨.inr ⟨n,s,els,h1,h2,q⟩⟩⟩}
theorem Ua {objs objs':List (Nat×Obj')}(hx:∀ n o,yN objs n=some o->yN objs' n=some o){v:PV}(h:FN objs v=true):FN objs' v=true:=by
 cases v with
 |osl m s i len =>
  grind [FN]
 |_=>cases h
theorem C1 {objs objs':List (Nat×Obj')}(hx:∀ n o,yN objs n=some o->yN objs' n=some o){v:PV}(h:lnt objs v=true):lnt objs' v=true:=by
 cases v with
 |agg cs =>
  simp only[lnt] at h ⊢;induction cs with
  |nil=>exact h| cons c cs ih =>
   simp only[MH] at h ⊢;cases hc:FN objs c with
   |true=>rw[Ua hx hc]| false =>
    grind
 |osl m s i len=>exact Ua (v:=.osl m s i len) hx h| _=>cases h
theorem Ba {objs objs':List (Nat×Obj')}(hx:∀ n o,yN objs n=some o->yN objs' n=some o){v:PV}{K:PV->Prop}(h:ldV objs v K):ldV objs' v K:=by
 unfold ldV at *;cases hn:lnt objs v with
 |false =>
  rw[hn] at h;cases lnt objs' v with
  |false=>exact h| true=>exact⟨.inl h⟩
 |true =>
  rw[hn] at h;rw[C1 hx hn];rcases h.h with hK|⟨n,s,els,h1,h2,h3⟩;{exact⟨.inl hK⟩};{exact⟨.inr ⟨n,s,els,hx _ _ h1,h2,h3⟩⟩}
theorem Cz {objs objs':List (Nat×Obj')}(hx:∀ n o,yN objs n=some o->yN objs' n=some o){t:Ty}{cs:List PV}{off:Nat}{K:PV->Prop}(h:rdK t cs off (λv=>ldV objs v K)):rdK t cs off (λv=>ldV objs' v K):=by grind [ZL,Ba]
theorem Jn {b:Bool}{objs:List (Nat×Obj')}{g:FuncId}{args:List PV}{K:PV->Prop}(h:CallS b objs g args K):∃ pv,K pv/\∀ K':PV->Prop,K' pv->CallS b objs g args K':=by rcases h.h with⟨args',r,h1,h2,h3,h4⟩|⟨hb,hn,cargs,kept,r,h1,h2,h3,h4,h5,h6,h7,h8,h9,h10⟩;{exact⟨r,h4,λK' q=>⟨.inl ⟨args',r,h1,h2,h3,q⟩⟩⟩};{exact⟨_,h10,λK' q=>⟨.inr ⟨hb,hn,cargs,kept,r,h1,h2,h3,h4,h5,h6,h7,h8,h9,q⟩⟩⟩}
theorem DM {objs:List (Nat×Obj')}{op:Op}{e:Operand->PV}{K:PV->Prop}(h:sop objs op e K):∃ pv,K pv/\∀ K':PV->Prop,K' pv->sop objs op e K':=by
 unfold sop at *;split at h;{grind};{grind};{exact ME h};{grind}
 ·split at h
  all_goals grind
 ·split at h;{exact ZL h};{grind [ZL,T7]}
  ·rename_i n s i off _;split at h
   ·rename_i s' els _;cases hss:nqb s s' with
    |false=>grind| true =>
     simp only[hss,cond_true] at h ⊢;obtain⟨c,h1,h2,h3,h4⟩:=h.h;obtain⟨pv,h5,h6⟩:=ZL h4;exact⟨pv,h5,λK' q=>⟨⟨c,h1,h2,h3,h6 K' q⟩⟩⟩
   ·rename_i s' rows hs _;cases hss:(nqb s 1&&nqb off 0) with
    |false=>grind| true =>
     simp only[hss] at h ⊢;obtain⟨v0,k0,h1,h2,h4⟩:=h.h;obtain⟨pv,h5,h6⟩:=ZL h4;exact⟨pv,h5,λK' q=>⟨⟨v0,k0,h1,h2,h6 K' q⟩⟩⟩
   ·rename_i cs _;cases hss:(nqb s 1&&nqb off 0) with
    |false=>grind| true =>
     simp only[hss] at h ⊢;obtain⟨h1,h4⟩:=h.h;obtain⟨pv,h5,h6⟩:=ZL h4;exact⟨pv,h5,λK' q=>⟨⟨h1,h6 K' q⟩⟩⟩
   grind
  grind
 {exact RG h};{split at h;{grind};{grind};{grind};{grind};{exact QO h};grind}
 ·rename_i src dst x;cases hno:(ty src).isNo with
  |true=>grind| false =>
   simp only[hno,cond_false] at h ⊢;split at h;{grind};{obtain⟨h1,h2,ns,h3,h4⟩:=h.h;exact⟨_,h4,λ_ q=>⟨h1,h2,ns,h3,q⟩⟩};grind
 ·split at h
  all_goals grind
 ·split at h
  ·split at h
   ·rename_i off sz ag hi;cases ag with
    |false =>
     (try simp only at h ⊢)
     grind
    |true =>
     (try simp only at h ⊢)
     grind
   grind
  grind
 {split at h;{obtain⟨h0,c,h1,h2,h3,h4⟩:=h.h;exact⟨_,h4,λ_ q=>⟨⟨h0,c,h1,h2,h3,q⟩⟩⟩};{grind};{obtain⟨j,h1,h2,h3⟩:=h.h;exact⟨_,h3,λ_ q=>⟨⟨j,h1,h2,q⟩⟩⟩};grind}
 ·split at h
  ·rename_i len z cs k kv _ _ _;cases hll:nqb len cs.length with
   |false=>grind| true =>
    simp only[hll,cond_true] at h ⊢;obtain⟨j,h1,h2,h3⟩:=h.h;exact⟨_,h3,λ_ q=>⟨⟨j,h1,h2,q⟩⟩⟩
  grind
 {grind}
 ·split at h;{grind}
  ·rename_i n b z m s o len _ _;split at h
   ·rename_i l hh e1 e2;cases hss:nqb n s with
    |false=>simp only[hss] at h| true =>
     simp only[hss] at h ⊢;obtain⟨h1,⟨h2⟩⟩:=h;rcases h2 with h2|h2;{exact⟨_,h2.2,λ_ q=>⟨h1,⟨.inl ⟨h2.1,q⟩⟩⟩⟩};{exact⟨_,h2.2,λ_ q=>⟨h1,⟨.inr ⟨h2.1,q⟩⟩⟩⟩}
   grind
  all_goals grind
 {grind};{grind};{split at h;{split at h;{unfold T6 at *;grind};grind};{grind};{grind};{split at h;{exact Jn h};grind};grind};grind
theorem p9 {e e':Operand->PV}:∀ {l:List Operand},(∀ x,x∈l->e x=e' x)->evs e l=evs e' l
 |[],_=>rfl| x::r,h=>by simp only[evs];rw[h x wI,p9 λy hy=>h y (wJ _ hy)]
theorem cS {e e':Operand->PV}:∀ {l:List (Nat×Operand)},(∀ x,x∈l.map (·.2)->e x=e' x)->vO e l=vO e' l
 |[],_=>rfl| (i,x)::r,h=>by simp only[vO];rw[h x (by simp),cS λy hy=>h y (by grind)]
theorem XO {e e':Operand->PV}{d:Unit->Int}{o:Option Operand}(h:∀ x,o=some x->e x=e' x):iT e d o=iT e' d o:=by
 cases o with
 |none=>rfl| some x=>simp only[iT];grind
theorem VF {objs:List (Nat×Obj')}{op:Op}{e e':Operand->PV}{K:PV->Prop}(h:∀ x,x∈op.operands.toList->e x=e' x)(hs:sop objs op e K):sop objs op e' K:=by
 cases op with
 |move x=>simp only[sop] at hs ⊢;rwa [<-h x (by simp[Op.operands])]| assign x=>simp only[sop] at hs ⊢;rwa [<-h x (by simp[Op.operands])]| pick c x y=>simp only[sop] at hs ⊢;rwa [<-h x (by simp[Op.operands]),<-h y (by simp[Op.operands]),<-h c (by simp[Op.operands])]| build t parts=>simp only[sop] at hs ⊢;rwa [<-cS (e:=e) λx hx=>h x (by grind [Op.operands])]| buildSlice t len parts=>simp only[sop] at hs ⊢;grind [cS,Op.operands]| load t a=>simp only[sop] at hs ⊢;rwa [<-h a (by simp[Op.operands])]| binOp b t x y yt=>simp only[sop] at hs ⊢;rwa [<-h x (by simp[Op.operands]),<-h y (by simp[Op.operands])]| unOp u t x=>simp only[sop] at hs ⊢;rwa [<-h x (by simp[Op.operands])]| convert s d x=>simp only[sop] at hs ⊢;rwa [<-h x (by simp[Op.operands])]| fieldAddr s x f=>simp only[sop] at hs ⊢;rwa [<-h x (by simp[Op.operands])]| field t x i=>simp only[sop] at hs ⊢;rwa [<-h x (by simp[Op.operands])]| indexAddr t x i=>simp only[sop] at hs ⊢;rwa [<-h x (by simp[Op.operands]),<-h i (by simp[Op.operands])]| index t x i=>simp only[sop] at hs ⊢;rwa [<-h x (by simp[Op.operands]),<-h i (by simp[Op.operands])]| extract x i=>simp only[sop] at hs ⊢;rwa [<-h x (by simp[Op.operands])]| slice t x lo hi mx =>
  have hx:=h x (by simp[Op.operands]);have hlo:∀ d,iT e d lo=iT e' d lo:=λd=>XO λy hy=>h y (by subst hy;simp[Op.operands]);have hhi:∀ d,iT e d hi=iT e' d hi:=λd=>XO λy hy=>h y (by subst hy;simp[Op.operands]);cases mx with
  |some m=>simp only[sop] at hs| none=>simp only[sop] at hs ⊢;simp only[<-hx,<-hlo,<-hhi];exact hs
 |nilCheck x=>simp only[sop] at hs ⊢;rwa [<-h x (by simp[Op.operands])]| makeFunc fn first caps =>
  cases fn with
  |func f =>
   simp only[sop] at hs ⊢;grind [p9,Op.operands]
  |_=>simp only[sop] at hs
 |call c =>
  have hargs:∀ x,x∈c.args.toList->e x=e' x:=λx hx=>h x (by grind [Op.operands,Call.operands]);simp only[sop] at hs ⊢;split at hs;{grind};{grind};{grind}
  all_goals grind [Op.operands,Call.operands,p9]
 |_=>simp only[sop] at hs
theorem RH {n b:Nat}{base x:PV}{K:PV->Prop}(h:Jz n b base x K):∃ pv,K pv/\∀ K':PV->Prop,K' pv->Jz n b base x K':=by unfold Jz at *;grind
theorem QS {op:Op}{e:Operand->PV}{K:PV->Prop}(h:Al op e K):∃ (c:Call) (b x:Operand) (t tx:TypeId) (n bb:Nat) (z:List PV),op=.call c/\c.args=#[b,x]/\c.argTypes=#[t,tx]/\Zc (ty tx)=true/\ty t=.sli n bb z/\jO (e b)=true/\Jz n bb (e b) (e x) K:=by
 unfold Al at h;split at h
 ·rename_i c;split at h
  ·rename_i b x t tx hb ht;cases hi:Zc (ty tx) with
   |false=>grind| true =>
    rw[hi] at h;simp only at h;split at h
    ·rename_i n bb z h1 h2;refine⟨c,b,x,t,tx,n,bb,z,rfl,?_,?_,hi,h1,h2,h⟩
     all_goals grind
    grind
  grind
 grind
theorem Fi {c:Call}{b x:Operand}{t tx:TypeId}{n bb:Nat}{z:List PV}{e:Operand->PV}{K:PV->Prop}(h1:c.args=#[b,x])(h2:c.argTypes=#[t,tx])(h3:Zc (ty tx)=true)(h4:ty t=.sli n bb z)(h5:jO (e b)=true)(h6:Jz n bb (e b) (e x) K):Al (.call c) e K:=by grind [Al]
variable {nb:Bool}
theorem Fs {op:Op}{c:Call}(h:Q2 op=some c):op=.call c/\∃ f,c.callee=.value f:=by unfold Q2 at h;grind
theorem nS {objs:List (Nat×Obj')}{op:Op}{e:Operand->PV}{K:PV->Prop}(h:oB objs op e K):(Q2 op=none/\sop objs op e K)\/∃ c f g caps,op=.call c/\c.callee=.value f/\Q2 op=some c/\e f=.fn g caps/\CallS true objs g (evs e c.args.toList++caps) K:=by
 unfold oB at h;cases hv:Q2 op with
 |none=>grind| some c =>
  obtain⟨h1,f,h2⟩:=Fs hv;grind
theorem UL {objs:List (Nat×Obj')}{op:Op}{e:Operand->PV}{K:PV->Prop}{c:Call}{f:Operand}{g:FuncId}{caps:List PV}(hv:Q2 op=some c)(h2:c.callee=.value f)(he:e f=.fn g caps)(h:CallS true objs g (evs e c.args.toList++caps) K):oB objs op e K:=by grind [oB]
theorem Xt {objs:List (Nat×Obj')}{op:Op}{e:Operand->PV}{K:PV->Prop}(hv:Q2 op=none)(h:sop objs op e K):oB objs op e K:=by grind [oB]
theorem Sd {objs:List (Nat×Obj')}{op:Op}{e:Operand->PV}{K:PV->Prop}(h:oB objs op e K):∃ pv,K pv/\∀ K':PV->Prop,K' pv->oB objs op e K':=by grind [nS,DM,Xt,Jn,UL]
theorem Wz {e e':Operand->PV}:∀ {l:List Operand},(∀ x,x∈l->e x=e' x)->evs e l=evs e' l
 |[],_=>rfl| x::r,h=>by simp only[evs];rw[h x wI,Wz λy hy=>h y (wJ _ hy)]
theorem JU {objs:List (Nat×Obj')}{op:Op}{e e':Operand->PV}{K:PV->Prop}(h:∀ x,x∈op.operands.toList->e x=e' x)(hs:oB objs op e K):oB objs op e' K:=by rcases nS hs with⟨h1,h2⟩|⟨c,f,g,caps,h1,h2,h3,h4,h5⟩;{grind [Xt,VF]};{subst h1;have hf:e f=e' f:=h f (by simp[Op.operands,Call.operands,h2]);refine UL h3 h2 (hf ▸ h4) ?_;rw[<-Wz (e:=e) (e':=e') λx hx=>h x (by simp only[Op.operands,Call.operands,h2];simp;simp at hx;first|grind|exact .inl hx|exact hx)];exact h5}
theorem Se {objs:List (Nat×Obj')}{op:Op}{e:Operand->PV}{K:PV->Prop}(h:bU nb objs op e K):∃ pv,K pv/\∀ K':PV->Prop,K' pv->bU nb objs op e K':=by
 unfold bU at *;cases hi:Yx op with
 |false =>
  rw[hi] at h;cases nb with
  |true=>exact Sd h| false=>exact DM h
 |true =>
  rw[hi] at h;obtain⟨c,b,x,t,tx,n,bb,z,rfl,h1,h2,h3,h4,h5,h6⟩:=QS h;grind [RH,Fi]
theorem KU {op:Op}(h:Yx op=true):∃ c,op=.call c/\c.callee=.builtin .append:=by unfold Yx at h;grind
theorem JV {objs:List (Nat×Obj')}{op:Op}{e e':Operand->PV}{K:PV->Prop}(h:∀ x,x∈op.operands.toList->e x=e' x)(hs:bU nb objs op e K):bU nb objs op e' K:=by
 unfold bU at *;cases hi:Yx op with
 |false =>
  rw[hi] at hs;cases nb with
  |true=>exact JU h hs| false=>exact VF h hs
 |true =>
  rw[hi] at hs;obtain⟨c',hc1,hc2⟩:=KU hi;obtain⟨c,b,x,t,tx,n,bb,z,rfl,h1,h2,h3,h4,h5,h6⟩:=QS hs;grind [Op.operands,Call.operands,Fi]
def pM (nb:Bool) (objs:List (Nat×Obj')) (all:List Oper) (o:Oper) (τ:Nat->PV) (pv:PV):Prop :=
 gH all o τ (λ_=>bU nb objs o.op (ev τ) (λv=>Le v pv)) (λ_=>pv=.tup [])
theorem K6 {all:List Oper}{o:Oper}{τ:Nat->PV}{A B A' B':Unit->Prop}(hA:A ()->A' ())(hB:B ()->B' ())(h:gH all o τ A B):gH all o τ A' B':=by
 have br:∀ {v:PV} {A B A' B':Unit->Prop},(A ()->A' ())->(B ()->B' ())->brV v A B->brV v A' B':=by intro v A B A' B' hA hB h;unfold brV at *;split at h;{grind};{grind};{exact⟨λe=>hA (h.t e),λe=>hB (h.f e)⟩};{exact⟨λe=>hB (h.t e),λe=>hA (h.f e)⟩};omega
 unfold gH at *;split at h;{grind};{rename_i j want hg;split at h;{rename_i oj hj;split at h;{rename_i d hd;by_cases hu:τ d=.tup [];{rw[hu] at h ⊢;exact hB h};rw[Qs hu] at h ⊢;grind};omega};omega}
theorem Kc {objs:List (Nat×Obj')}{all:List Oper}{o:Oper}{τ:Nat->PV}{K:PV->Prop}{K2:Prop}(h:gH all o τ (λ_=>bU nb objs o.op (ev τ) K) (λ_=>K2)):(∃ pv,K pv/\∀ pv',Le pv pv'->pM nb objs all o τ pv')\/(K2/\pM nb objs all o τ (.tup [])):=by
 have pv1:bU nb objs o.op (ev τ) K->∃ pv,K pv/\∀ pv',Le pv pv'->bU nb objs o.op (ev τ) (λv=>Le v pv'):=λhs=>by grind [Se]
 unfold gH at h;split at h;{grind [pM,gH]}
 ·rename_i j want hg;split at h
  ·rename_i oj hj;split at h
   ·rename_i d hd;by_cases hu:τ d=.tup [];{rw[hu] at h;exact .inr ⟨h,by unfold pM gH;rw[hg];simp only[hj,hd,hu];exact trivial⟩}
    (rw[Qs hu] at h;have st:∀ pv',(if want then brV (τ d) (λ_=>bU nb objs o.op (ev τ) (λv=>Le v pv')) (λ_=>pv'=.tup []) else brV (τ d) (λ_=>pv'=.tup []) (λ_=>bU nb objs o.op (ev τ) (λv=>Le v pv')))->pM nb objs all o τ pv':=by grind [pM,gH,Qs]);have br:∀ {v:PV} {A:Prop},brV v (λ_=>A) (λ_=>K2)->(A/\∀ X Y:Unit->Prop,X ()->brV v X Y)\/(K2/\∀ X Y:Unit->Prop,Y ()->brV v X Y):=by
     intro v A hb;unfold brV at *;cases v with
     |tt=>grind| ff=>grind| bool b =>
      cases hv:b () with
      |true=>exact .inl ⟨hb.t hv,λ_ _ q=>⟨λ_=>q,λe=>by grind⟩⟩| false=>exact .inr ⟨hb.f hv,λ_ _ q=>⟨λe=>(by grind),λ_=>q⟩⟩
     |nbool b =>
      cases hv:b () with
      |true=>exact .inr ⟨hb.t hv,λ_ _ q=>⟨λ_=>q,λe=>by grind⟩⟩| false=>exact .inl ⟨hb.f hv,λ_ _ q=>⟨λe=>(by grind),λ_=>q⟩⟩
     |_=>exact hb.elim
    have br':∀ {v:PV} {A:Prop},brV v (λ_=>K2) (λ_=>A)->(A/\∀ X Y:Unit->Prop,Y ()->brV v X Y)\/(K2/\∀ X Y:Unit->Prop,X ()->brV v X Y):=by
     intro v A hb;unfold brV at *;cases v with
     |tt=>grind| ff=>grind| bool b =>
      cases hv:b () with
      |true=>exact .inr ⟨hb.t hv,λ_ _ q=>⟨λ_=>q,λe=>by grind⟩⟩| false=>exact .inl ⟨hb.f hv,λ_ _ q=>⟨λe=>(by grind),λ_=>q⟩⟩
     |nbool b =>
      cases hv:b () with
      |true=>exact .inl ⟨hb.t hv,λ_ _ q=>⟨λ_=>q,λe=>by grind⟩⟩| false=>exact .inr ⟨hb.f hv,λ_ _ q=>⟨λe=>(by grind),λ_=>q⟩⟩
     |_=>exact hb.elim
    cases want with
    |true =>
     simp only[cond_true] at h;rcases br h with⟨hA,hX⟩|⟨h2,hY⟩
     all_goals grind
    |false =>
     simp only[cond_false] at h;rcases br' h with⟨hA,hX⟩|⟨h2,hY⟩
     all_goals grind
   grind
  grind
theorem Ky {all:List Oper}{o:Oper}{ps:PS}{pv:PV}{K:PS->Prop}(h:XT all o (put ps o.dst pv) K):∃ pv' ps',Le pv pv'/\K ps'/\ps'.objs=ps.objs/\zE ps'.tmps=upd (zE ps.tmps) o.dst pv':=by
 unfold XT at h;cases hg:isG all o with
 |false=>simp only[hg,cond_false] at h;grind [Le.refl,fY,wV]| true =>
  simp only[hg,cond_true] at h;split at h
  ·(rename_i d hd;have hpv:zE (put ps o.dst pv).tmps d=pv:=by rw[wV,hd];simp[upd]);have fin:∀ x,zE (uA (put ps o.dst pv).tmps d x)=upd (zE ps.tmps) o.dst x:=by grind [gL,wV,upd]
   rw[hpv] at h;split at h
   ·rename_i b;cases hv:b () with
    |true=>exact⟨.tt,_,by grind [Le],h.t hv,fY _ _ _,fin _⟩| false=>exact⟨.ff,_,by grind [Le],h.f hv,fY _ _ _,fin _⟩
   ·rename_i b;cases hv:b () with
    |true=>exact⟨.ff,_,by grind [Le],h.t hv,fY _ _ _,fin _⟩| false=>exact⟨.tt,_,by grind [Le],h.f hv,fY _ _ _,fin _⟩
   grind [Le.refl,fY,wV]
  grind [Le.refl,fY,wV]
theorem Yj {objs:List (Nat×Obj')}{all:List Oper}{o:Oper}{τ τ':Nat->PV}{pv:PV}(h:∀ t,t∈kT all o->τ t=τ' t)(hs:pM nb objs all o τ pv):pM nb objs all o τ' pv:=by
 have hop:∀ x,x∈o.op.operands.toList->ev τ x=ev τ' x:=by
  intro x hx;cases x with
  |tmp t=>exact h t (by unfold kT;grind)| _=>rfl
 have hs':gH all o τ (λ_=>bU nb objs o.op (ev τ') (λv=>Le v pv)) (λ_=>pv=.tup []):=K6 (λh=>JV hop h) id hs;unfold pM;unfold gH at hs' ⊢;split at hs'
 all_goals grind [kT]
def aH:List Oper->List PV->(Nat->PV)->(Nat->PV)
 |o::l,v::vs,τ=>aH l vs (upd τ o.dst v)| _,_,τ=>τ
theorem Ke {objs objs':List (Nat×Obj')}{op:Op}{e:Operand->PV}{K:PV->Prop}(hx:∀ n o,yN objs n=some o->yN objs' n=some o)(h:sop objs op e K):sop objs' op e K:=by
 cases op with
 |load t a =>
  unfold sop at h ⊢;simp only at h ⊢;split at h;{exact h}
  ·rename_i n off he;cases ho:yN objs n with
   |none=>grind| some o =>
    rw[ho] at h;rw[hx _ _ ho];cases o with
    |box cs=>exact Cz hx h| _=>exact h.elim
  all_goals grind
 |makeFunc fn first caps=>cases fn <;> exact h
 |slice t x lo hi mx=>cases mx <;> exact h
 |_=>exact h
theorem Zg {objs objs':List (Nat×Obj')}{h:Nat->Nat}(hx:∀ n o,yN objs n=some o->yN objs' n=some o):∀ {l:List (Nat×Obj')},qE h objs l->qE h objs' l
 |[],_=>trivial| (n,o)::r,H=>⟨⟨hx _ _ H.1.1,H.1.2⟩,Zg hx H.2⟩
theorem Fz {objs objs':List (Nat×Obj')}{op:Op}{e:Operand->PV}{K:PV->Prop}(hx:∀ n o,yN objs n=some o->yN objs' n=some o)(h:oB objs op e K):oB objs' op e K:=by rcases nS h with⟨h1,h2⟩|⟨c,f,g,caps,h1,h2,h3,h4,h5⟩;{grind [Xt,Ke]};{refine UL h3 h2 h4 ?_;rcases h5.h with q|⟨hb,hn,cargs,kept,r,q1,q2,q3,q4⟩;{exact⟨.inl q⟩};{exact⟨.inr ⟨hb,hn,cargs,kept,r,q1,q2,Zg hx q3,q4⟩⟩}}
theorem FB {objs objs':List (Nat×Obj')}{op:Op}{e:Operand->PV}{K:PV->Prop}(hx:∀ n o,yN objs n=some o->yN objs' n=some o)(h:bU nb objs op e K):bU nb objs' op e K:=by
 unfold bU at *;cases hi:Yx op with
 |false =>
  rw[hi] at h;cases nb with
  |true=>exact Fz hx h| false=>exact Ke hx h
 |true=>grind
theorem s6 {o:Oper}{d:Nat}{x:Obj'}(h:uB o=some (d,x)):o.guard=none/\o.dst=some d/\∃ t,o.op=.alloc t/\(ty t).isNo=false/\x=.box (ty t).zero:=by unfold uB at h;grind
theorem Q6:∀ {l:List Oper} {pvs:List PV} {τ:Nat->PV} {j t:Nat} {o:Oper} {pv:PV},dD l=true->l[j]?=some o->pvs[j]?=some pv->o.dst=some t->aH l pvs τ t=pv
 |o'::r,v::vs,τ,0,t,o,pv,hd,hl,hp,ht=>by
  simp only[Zx,mF] at hl hp;subst hl hp;simp only[dD,yP,ht] at hd;have:∀ (l:List Oper) (vs:List PV) (τ:Nat->PV),(l.all λx=>!(x.dst == some t))=true->aH l vs τ t=τ t:=by
   intro l;induction l with
   |nil=>intro vs τ _;cases vs <;> rfl
   |cons x l ih =>
    intro vs τ h;cases vs with
    |nil=>rfl| cons v vs =>
     simp only[List.all_cons,yP] at h;simp only[aH];rw[ih vs _ h.2];cases hx:x.dst with
     |none=>rfl| some d =>
      (have:d≠t:=by grind);simp[upd,Ne.symm this]
  simp only[aH];rw[this r vs _ hd.1];simp[upd,ht]
 |o'::r,v::vs,τ,j+1,t,o,pv,hd,hl,hp,ht=>by simp only[Zw] at hl hp;simp only[dD,yP] at hd;simp only[aH];exact Q6 hd.2 hl hp ht| [],_,_,_,_,_,_,_,hl,_,_=>by grind| _::_,[],_,_,_,_,_,_,_,hp,_=>by grind
theorem Vz:∀ {l:List Oper} {pvs:List PV} {τ:Nat->PV} {t:Nat},(∀ (j:Nat) (o:Oper),l[j]?=some o->o.dst≠some t)->aH l pvs τ t=τ t
 |o::r,v::vs,τ,t,h=>by
  simp only[aH];rw[Vz λj o' hj=>h (j+1) o' (by grind)];have:=h 0 o (by simp);cases hx:o.dst with
  |none=>rfl| some d =>
   (have hne:d≠t:=by grind);simp[upd,Ne.symm hne]
 |[],_,_,_,_=>by simp[aH]| _::_,[],_,_,_=>by simp[aH]
theorem Yz:∀ {l:List Oper} (k:Nat),dD l=true->dD (l.take k)=true
 |[],k,_=>by grind| o::r,0,_=>rfl| o::r,k+1,h=>by simp only[List.take_succ_cons,dD,yP] at h ⊢;refine⟨?_,Yz k h.2⟩;grind
theorem tA:∀ {l:List Oper} {i j:Nat} {o o':Oper} {t:Nat},dD l=true->l[i]?=some o->l[j]?=some o'->o.dst=some t->o'.dst=some t->i=j
 |x::r,0,0,o,o',t,_,_,_,_,_=>rfl| x::r,0,j+1,o,o',t,h,hi,hj,ht,ht'=>by simp only[Zx,mF] at hi;simp only[Zw] at hj;subst hi;simp only[dD,yP,ht,pA] at h;grind| x::r,i+1,0,o,o',t,h,hi,hj,ht,ht'=>by simp only[Zx,mF] at hj;simp only[Zw] at hi;subst hj;simp only[dD,yP,ht',pA] at h;grind| x::r,i+1,j+1,o,o',t,h,hi,hj,ht,ht'=>by simp only[Zw] at hi hj;simp only[dD,yP] at h;rw[tA h.2 hi hj ht ht']| [],_,_,_,_,_,_,hi,_,_,_=>by grind
end Go.Proofs.YtaeaffgjdcigoaaGreat
