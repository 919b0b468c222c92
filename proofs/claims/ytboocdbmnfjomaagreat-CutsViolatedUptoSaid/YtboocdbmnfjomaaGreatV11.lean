/- A part of the proof: PmN, PmO. -/
import Derived.Test.YtboocdbmnfjomaaGreatV10
set_option linter.all false
namespace Go.Proofs.YtboocdbmnfjomaaGreat
open Go
section
variable {w0:World} {S0:Nat->Nat->Prop} {K0:Nat->Prop} {N:Cx} {τ:Nat->PV} {objs:List (Nat×Obj')} {a:Act} {w w':World} {S S':Nat->Nat->Prop} {β:Bm}
theorem cL {o:Oper}{ps:PS}{K:PS->Prop}{Km:Act->World->Prop}{Q:Exit->Act->World->Prop}(h:Sim w0 S0 K0 N (zD ps.tmps) ps.objs a w S β)(hs:dX o ps K)(hd:∀ t,o.dst=some t->t<N) (hk:∀ ps' a' w' S' β',K ps'->Sim w0 S0 K0 N (zD ps'.tmps) ps'.objs a' w' S' β'->Km a' w'):o.wp Pg a w Km Q:=by
 have hsop:sop ps.objs o.op (ev (zD ps.tmps)) (λv=>K (put ps o.dst v))->o.wp Pg a w Km Q:=λhs =>
  Zn h hs λpv w' S' v hK l hr=>hk _ _ _ _ _ hK (vC (h.go l) o.dst hd hr)
 unfold dX at hs;split at hs;{rename_i t ad hop;split at hs;{obtain⟨ps',hw,hs⟩:=hs.h;obtain⟨S1,β1,h1⟩:=hw.sound h;exact Zn h1 (by grind) λpv w' S' v hK l hr=>hk _ _ _ _ _ hK (vC (h1.go l) o.dst hd hr)};grind}
 ·rename_i t hop;split at hs
  ·rename_i d hod;cases hno:(ty t).isNo with
   |true=>grind| false =>
    simp only[hno,cond_false] at hs;obtain⟨i,zv,h1,h2,h3⟩:=HH (w:=w) (S:=S) (β:=β) hno;have hz:wL d (ty t).zero=true:=by
     cases hty:ty t with
     |no=>grind [Ty.isNo]| sc z=>obtain⟨_,_,zv',_,_,_,_,_,_,h7,_⟩:=Vr hty;rw[h7];simp only[Ty.zero,wL,yX,Bool.and_true];unfold w7;split <;> rfl
     |st n fs z =>
      obtain⟨_,_,zs,_,_,_,_,_,_,h7,_⟩:=Y5 hty;rw[h7];simp only[Ty.zero];generalize zs.toList=l;induction l with
      |nil=>rfl| cons x l ih=>simp only[kK,wL,yX,xA];exact⟨by unfold w7;split <;> rfl,ih⟩
     |arr len n ag z =>
      obtain⟨_,_,zs,_,_,_,_,_,_,_,_,_,_,h7⟩:=iB hty;rw[h7];simp only[Ty.zero];generalize zs.toList=l;induction l with
      |nil=>rfl| cons x l ih=>simp only[kK,wL,yX,xA];exact⟨by unfold w7;split <;> rfl,ih⟩
     |sli n b z=>rfl
    refine oI (T:=t) hod (hd d hod) h hs h3 ?_ hk hz;simp[execOp,hop,Instr.alloc,mF h1 h2,newVar,newRow]
  grind
 ·rename_i t x hop;split at hs
  ·rename_i d hod;cases hp:gU (ev (zD ps.tmps) x) with
   |false=>grind| true =>
    simp only[hp,cond_true] at hs;have hr:=h.eval x;have hz:yO d ps=true->wL d (yW (ev (zD ps.tmps) x))=true:=by
     intro hf;simp only[yO,xA] at hf;have hx:xN d (ev (zD ps.tmps) x)=true:=by
      cases x with
      |tmp t=>exact vP hf.1 t| const v=>simp only[ev];unfold w7;split <;> rfl
      |global g=>rfl| func f=>rfl
     generalize ev (zD ps.tmps) x=y at hx hp;cases y with
     |agg cs =>
      have:∀ (l:List PV),yX (rf1 d) l=true->wL d l=true:=by
       intro l;induction l with
       |nil=>intro _;rfl
       |cons c l ih =>
        intro hl;simp only[yX,xA] at hl;simp only[wL,yX,xA];refine⟨?_,ih hl.2⟩;have h1:=hl.1;have up:∀ (l:List PV),yX (rf0 d) l=true->yX (rf1 d) l=true:=by
         intro l;induction l with
         |nil=>intro _;rfl
         |cons e l ih2 =>
          intro hl;simp only[yX,xA] at hl ⊢;exact⟨by cases e <;> first|(simp[rf0] at hl;done)|exact hl.1,ih2 hl.2⟩
        cases c <;> first|exact h1|exact up _ h1
      exact this cs hx
     |tup cs=>grind [gU,tE]| _=>simpa only [yW,wL,yX,Bool.and_true] using hx
    (have hfree:yO d ps=true:=by grind [ZC]);refine oI (T:=t) hod (hd d hod) h hs (j2 hr hp) ?_ hk (hz hfree)
    simp[execOp,hop,Instr.box,newVar,newRow]
  grind
 ·rename_i t ad vl hop;split at hs
  ·rename_i n off ha;split at hs
   ·rename_i cs ho;cases hc:(nqb (yW (ev (zD ps.tmps) vl)).length (ty t).cells&&nle (off+(ty t).cells) cs.length&&nlt 0 (ty t).cells&&yX tE (yW (ev (zD ps.tmps) vl))) with
    |false=>grind| true =>
     simp only[hc,cond_true] at hs;simp only[xA] at hc;exact G5 hop hd h ha ho (y5 hc.1.1.1) (mP hc.1.1.2) (by simp_all) hc.2 hs hk
   grind
  ·rename_i n s i off ha;split at hs
   ·rename_i s' els ho;cases hc:(nqb s s'&&nqb (yW (ev (zD ps.tmps) vl)).length (ty t).cells&&nle (off+(ty t).cells) s&&nlt 0 (ty t).cells&&yX o8 (yW (ev (zD ps.tmps) vl))) with
    |false=>grind| true =>
     simp only[hc,cond_true] at hs;simp only[xA] at hc;have:=y5 hc.1.1.1.1;subst this;exact G6 hop hd h ha ho (y5 hc.1.1.1.2) (mP hc.1.1.2) (by simp_all) hc.2 hs hk
   ·rename_i s' rows hs0 ho;cases hc:(nqb s 1&&nqb off 0&&nqb (ty t).cells 1&&P7 (ev (zD ps.tmps) vl)) with
    |false=>grind| true =>
     simp only[hc] at hs;simp only[xA] at hc;have e1:=y5 hc.1.1.1;have e2:=y5 hc.1.1.2;subst e1 e2;exact G4 hop hd h ha ho (y5 hc.1.2) hc.2 hs hk
   grind
  grind
 ·rename_i t len parts hop;split at hs
  ·rename_i d n b z hod ht;cases hor:UO (sS n (vA (ev (zD ps.tmps)) parts.toList) (rO z len)) with
   |none =>
    rw[hor] at hs;cases he:(nqb len 0&&UR parts.toList) with
    |false =>
     simp only[he] at hs;split at hs
     ·rename_i cs hap;cases hc:(nqb cs.length len&&nqb n 1&&nle len 1000&&yO d ps&&wL d cs) with
      |false=>grind| true =>
       simp only[hc] at hs;simp only[xA] at hc;have e1:=y5 hc.1.1.1.2;exact Vh hop hod (hd d hod) h ht e1 (e1 ▸ hap) (y5 hc.1.1.1.1) (by simp_all) hc.1.2 hc.2 hs hk
     cases hfm:(Nc z || KP (d+500000) ps.objs) with
     |false=>grind| true =>
      simp only[hfm] at hs;split at hs
      ·rename_i els hfe;cases hc:(nle (len*n) 1000&&m5 els) with
       |false=>grind| true =>
        simp only[hc] at hs;rcases hs.h with hs|⟨hfr,hs⟩;{refine hsop ?_;rw[hop];simp only[sop,ht,hfe,hc];grind};{simp only[xA] at hc;exact WI hop hod (hd d hod) h ht hfe (mP hc.1) hc.2 hfr hs hk}
      grind
    |true =>
     simp only[he] at hs;simp only[xA] at he;cases hfr:yO d ps with
     |false=>grind| true=>simp only[hfr] at hs;exact Qs hop hod (hd d hod) h ht (y5 he.1) he.2 hfr hs hk
   |some p =>
    obtain⟨k,s,o',len'⟩:=p;simp only[hor] at hs;cases hc:(nqb n 1&&nqb len 1 && !(nqb k d)&&yO d ps) with
    |false=>grind| true =>
     simp only[hc] at hs;simp only[xA] at hc;have e1:=y5 hc.1.1.1;have e2:=y5 hc.1.1.2;subst e1 e2;exact WJ hop hod (hd d hod) h ht rfl (Kn hor) (by grind [xN,rf0]) hc.2 hs hk
  grind
 ·rename_i t l c hop;split at hs
  ·rename_i n b z d x y ht hod hl hc;obtain⟨hR,hM,hs⟩:=hs;cases hf:(yO d ps&&yX o8 z) with
   |false=>grind| true =>
    simp only[hf,cond_true] at hs;simp only[xA] at hf;exact Hd hop hod (hd d hod) h ht hl hc hR hM hf.1 hf.2 hs hk
  grind
 ·rename_i c hop;split at hs;{rename_i g hcl;obtain⟨ps',hw,f,caps,hf,hs⟩:=hs.h;obtain⟨S1,β1,h1⟩:=hw.sound h;rcases hs with⟨args',r,hle,hso,hnm,hK⟩|⟨hn,cargs,kept,eaten,r,kept',made,hle,hso,hobj,hnd1,hnd2,hclo,hnd3,hfree,hlv,hlr,hnm,hK⟩;{exact m7 hop hcl h1 hf ⟨args',r,hle,hso,hnm,hK⟩ λpv w' S' v hK' l hr=>hk _ _ _ _ _ hK' (vC (h1.go l) o.dst hd hr)};{exact Jd hop hcl hd h1 hf hle hso hobj hnd1 hnd2 hclo hnd3 hfree hlv hlr hnm hK hk}}
  ·rename_i hcl;split at hs
   ·rename_i b x t tx ha ht;cases htx:l4 (ty tx) with
    |false=>grind| true =>
     simp only[htx,cond_true] at hs;rcases hs.h with hs|hs
     case inr =>
      obtain⟨ps',d,nm,b',z,m,m',s,o1,len,rows,o2,len',rows',hw,hod,hty,g1,g2,g3,g4,g5,g6,g7,g8,g9,g10,g11,g12,g13⟩:=hs.h;obtain⟨S1,β1,h1⟩:=hw.sound h;exact Hv hop hcl (by grind) (by grind) htx hod (hd d hod) h1 hty g1 g2 g3 g4 g5 g6 g7 g8 g9 g10 g11 g12 g13 hk
     obtain⟨ps',d,nm,n,b',z,xs,hw,hod,hty,hx,hwid,hs⟩:=hs.h;obtain⟨S1,β1,h1⟩:=hw.sound h;exact FZ hop hcl (by grind) (by grind) htx hod (hd d hod) h1 hty hx hwid hs hk
   grind
  all_goals grind
 {rename_i t x yt hop;split at hs;{rename_i n b z els ht hx;have hr:=h.eval x;rw[hx] at hr;obtain⟨pv,val,h1,h2,h3⟩:=UU (w:=w) (S:=S) (β:=β) (x:=x) ht hr hs;refine jG (v:=val) (w':=w) ?_ (hk _ _ _ _ _ h1 (vC h o.dst hd h3));simp only[execOp,hop,Sem.run_bind] at h2 ⊢;have:a.eval (.const (.slice none 0 0))=.slice none 0 0:=rfl;simp_all};{rename_i n b z m s oo len ht hx;have hr:=h.eval x;rw[hx] at hr;obtain⟨pv,val,h1,h2,h3⟩:=UT (w:=w) (S:=S) (β:=β) (x:=x) ht hr hs;refine jG (v:=val) (w':=w) ?_ (hk _ _ _ _ _ h1 (vC h o.dst hd h3));simp only[execOp,hop,Sem.run_bind] at h2 ⊢;have:a.eval (.const (.slice none 0 0))=.slice none 0 0:=rfl;simp_all};{rename_i n b z ht hx;have hr:=h.eval x;rw[hx] at hr;have h2:=J9 (w:=w) (x:=x) ht;refine jG (v:=.bool true) (w':=w) ?_ (hk _ _ _ _ _ hs (vC h o.dst hd (rZ (λ_=>true))));simp only[execOp,hop,Sem.run_bind] at h2 ⊢;have:a.eval (.const (.slice none 0 0))=.slice none 0 0:=rfl;simp[this,dG hr,h2]};grind};{rename_i t x yt hop;split at hs;{rename_i n b z els ht hx;have hr:=h.eval x;rw[hx] at hr;obtain⟨pv,val,h1,h2,h3⟩:=Vd (K:=λv=>K (put ps o.dst v)) (w:=w) (S:=S) (β:=β) (x:=x) ht hr hs;refine jG (v:=val) (w':=w) ?_ (hk _ _ _ _ _ h1 (vC h o.dst hd h3));simp only[execOp,hop,Sem.run_bind] at h2 ⊢;have:a.eval (.const (.slice none 0 0))=.slice none 0 0:=rfl;simp_all};{rename_i n b z m s oo len ht hx;have hr:=h.eval x;rw[hx] at hr;obtain⟨pv,val,h1,h2,h3⟩:=Vb (K:=λv=>K (put ps o.dst v)) (w:=w) (S:=S) (β:=β) (x:=x) ht hr hs;refine jG (v:=val) (w':=w) ?_ (hk _ _ _ _ _ h1 (vC h o.dst hd h3));simp only[execOp,hop,Sem.run_bind] at h2 ⊢;have:a.eval (.const (.slice none 0 0))=.slice none 0 0:=rfl;simp_all};{rename_i n b z ht hx;have hr:=h.eval x;rw[hx] at hr;have h2:=Ko (w:=w) (x:=x) ht;refine jG (v:=.bool false) (w':=w) ?_ (hk _ _ _ _ _ hs (vC h o.dst hd (mJ (λ_=>true))));simp only[execOp,hop,Sem.run_bind] at h2 ⊢;have:a.eval (.const (.slice none 0 0))=.slice none 0 0:=rfl;simp[this,dG hr,h2]};grind};grind
theorem U8 {want:Bool}{v:PV}{A B:Unit->Prop}(h:v≠.tup []):gdV want v A B=(match want with|true=>brV v A B|false=>brV v B A):=by unfold gdV;grind
theorem eX (w:World)(S:Nat->Nat->Prop)(β:Bm):Rep w S β undef (.tup []):=.tup rfl λj hj=>absurd hj (by simp)
theorem dN {ops:List Oper}{o:Oper}{A B:Unit->Prop}(ht:∀ t,Rep w S β (a.tmps.getD t undef) (τ t))(h:kJ ops o τ A B):(Region.wanted o (yielded ops.toArray a.tmps)=true/\A ())\/(Region.wanted o (yielded ops.toArray a.tmps)=false/\B ()):=by
 unfold kJ at h;split at h;{rename_i hg;exact .inl ⟨by simp[Region.wanted,hg],h⟩}
 ·rename_i j want hg;split at h
  ·rename_i oj hj;split at h
   ·rename_i d hd;have key:∀ b,a.tmps.getD d undef=.bool b->Region.wanted o (yielded ops.toArray a.tmps)=(b == want):=by
     intro b hb;have hlt:a.tmps[d]?=some (.bool b):=by
      cases hx:a.tmps[d]? with
      |none =>
       (have:a.tmps.getD d undef=undef:=by simp[hx]);rw[this] at hb
       cases hb
      |some v =>
       simp_all
     grind [Region.wanted,yielded]
    by_cases hu:τ d=.tup []
    ·have hr:=ht d;rw[hu] at hr h;refine .inr ⟨?_,h⟩;have hv:∀ b,a.tmps.getD d undef≠.bool b:=by
      intro b hb;rw[hb] at hr;cases hr with
      |c hf _=>cases hf
     cases hx:a.tmps[d]? with
     |none=>grind [Region.wanted,yielded]| some v =>
      (have e:a.tmps.getD d undef=v:=by simp[hx]);cases v with
      |bool b=>grind| _=>simp[Region.wanted,hg,yielded,hj,hd,hx]
    rw[U8 hu] at h;cases want with
    |true =>
     simp only[cond_true] at h;obtain⟨b,hb,h1,h2⟩:=ZR (ht d) h;grind
    |false =>
     simp only[cond_false] at h;obtain⟨b,hb,h1,h2⟩:=ZR (ht d) h;grind
   grind
  grind
theorem Yd {ops:List Oper}{o:Oper}{ps:PS}{K:PS->Prop}(h:Sim w0 S0 K0 N (zD ps.tmps) ps.objs a w S β)(hs:lS ops o ps K):∃ ps',K ps'/\Sim w0 S0 K0 N (zD ps'.tmps) ps'.objs a w S β:=by
 unfold lS at hs;cases hg:isG ops o with
 |false=>grind| true =>
  simp only[hg,cond_true] at hs;split at hs
  ·rename_i d hd;have hr:=h.tmp d;split at hs
   ·rename_i b hb;rw[hb] at hr;cases hv:b () with
    |true=>exact⟨_,hs.t hv,h.setT (hr.le .tt (by grind [Le]))⟩| false=>exact⟨_,hs.f hv,h.setT (hr.le .ff (by grind [Le]))⟩
   ·rename_i b hb;rw[hb] at hr;cases hv:b () with
    |true=>exact⟨_,hs.t hv,h.setT (hr.le .ff (by grind [Le]))⟩| false=>exact⟨_,hs.f hv,h.setT (hr.le .tt (by grind [Le]))⟩
   grind
  grind
def tV (N:Nat) (o:Oper):Bool :=
 match o.dst with
 |none=>true| some d=>decide (d<N)
theorem pJ {o:Oper}(h:tV N o=true):∀ t,o.dst=some t->t<N:=by grind [tV]
theorem rG {ops:List Oper}{Q:Exit->Act->World->Prop}{K:PS->Prop}(hk:∀ ps' a' w' S' β',K ps'->Sim w0 S0 K0 N (zD ps'.tmps) ps'.objs a' w' S' β'->Q .normal a' w'):∀ (l:List Oper) {ps:PS} {a:Act} {w:World} {S:Nat->Nat->Prop} {β:Bm},(∀ o,o∈l->tV N o=true)->Sim w0 S0 K0 N (zD ps.tmps) ps.objs a w S β->jB ops l ps K->wpList Pg ops.toArray Q l a w
 |[],ps,a,w,S,β,_,h,hs=>hk _ _ _ _ _ hs h| o::r,ps,a,w,S,β,hd,h,hs=>by simp only[jB] at hs;simp only[wpList];have hdo:=pJ (hd o vH);rcases dN h.tmp hs with⟨hw,hA⟩|⟨hw,hB⟩;{rw[if_pos hw];exact .inl (cL h hA hdo λps' a' w' S' β' hK hsim=>by obtain⟨ps'',hK',hsim'⟩:=Yd hsim hK;exact rG hk r (λo ho=>hd o (w6 _ ho)) hsim' hK')};{rw[if_neg (by grind)];exact rG hk r (λo ho=>hd o (w6 _ ho)) (vC h o.dst hdo (eX _ _ _)) hB}
end
section
variable {K:PV->Prop}
theorem TQ {v x y:PV}(h:brV v (λ_=>K x) (λ_=>K y)):∃ pv,K pv/\∀ K':PV->Prop,K' pv->brV v (λ_=>K' x) (λ_=>K' y):=by
 unfold brV at *;split at h;{grind};{grind}
 ·rename_i b;cases hb:b () with
  |true=>exact⟨x,h.t hb,λ_ q=>⟨λ_=>q,λe=>by grind⟩⟩| false=>exact⟨y,h.f hb,λ_ q=>⟨λe=>(by grind),λ_=>q⟩⟩
 ·rename_i b;cases hb:b () with
  |true=>exact⟨y,h.t hb,λ_ q=>⟨λ_=>q,λe=>by grind⟩⟩| false=>exact⟨x,h.f hb,λ_ q=>⟨λe=>(by grind),λ_=>q⟩⟩
 grind
theorem Zx {t:Ty}{cs:List PV}{off:Nat}(h:rdK t cs off K):∃ pv,K pv/\∀ K':PV->Prop,K' pv->rdK t cs off K':=by unfold rdK at *;grind
theorem Qx {k:IntKind}{z:Unit->Int}(h:arK k z K):∃ pv,K pv/\∀ K':PV->Prop,K' pv->arK k z K':=by unfold arK at *;grind
theorem Sy {op:BinOp}{k k':IntKind}{a b:Unit->Int}(h:Fz op k a k' b K):∃ pv,K pv/\∀ K':PV->Prop,K' pv->Fz op k a k' b K':=by
 unfold Fz at *;split at h;{grind};{grind}
 ·cases hk:HT k k' with
  |false=>grind| true =>
   simp only[hk,cond_true] at h ⊢;split at h;{exact Qx h};{exact Qx h};{exact Qx h}
   all_goals grind
end
theorem AN {K:PV->Prop}{bop:BinOp}{a b:Unit->ByteArray}(h:G3 bop a b K):∃ pv,K pv/\∀ K':PV->Prop,K' pv->G3 bop a b K':=by unfold G3 at *;grind
theorem SQ {K:PV->Prop}{bop:BinOp}{t:TypeId}{x y:Operand}{u v:PV}(h:FY bop t x y u v K):∃ pv,K pv/\∀ K':PV->Prop,K' pv->FY bop t x y u v K':=by
 unfold FY at *;split at h;{exact Sy h};{exact AN h};{split at h;{obtain⟨r,h1,h2⟩:=h.h;exact⟨_,h2,λ_ q=>⟨⟨r,h1,q⟩⟩⟩};grind}
 ·split at h;{grind}
  all_goals grind
theorem Tf {objs:List (Nat×Obj')}{v:PV}{K:PV->Prop}(h:ldV objs v K):∃ pv,K pv/\∀ K':PV->Prop,K' pv->ldV objs v K':=by
 unfold ldV at *;cases hn:lnt objs v with
 |false=>grind| true =>
  rw[hn] at h;rcases h.h with hK|⟨n,s,els,h1,h2,h3⟩;{exact⟨v,hK,λK' q=>⟨.inl q⟩⟩};{exact⟨_,h3,λK' q=>⟨.inr ⟨n,s,els,h1,h2,q⟩⟩⟩}
theorem V3 {objs objs':List (Nat×Obj')}(hx:∀ n o,yK objs n=some o->yK objs' n=some o){v:PV}(h:Ft objs v=true):Ft objs' v=true:=by
 cases v with
 |osl m s i len =>
  grind [Ft]
 |_=>cases h
theorem CI {objs objs':List (Nat×Obj')}(hx:∀ n o,yK objs n=some o->yK objs' n=some o){v:PV}(h:lnt objs v=true):lnt objs' v=true:=by
 cases v with
 |agg cs =>
  simp only[lnt] at h ⊢;induction cs with
  |nil=>exact h| cons c cs ih =>
   simp only[TX] at h ⊢;cases hc:Ft objs c with
   |true=>rw[V3 hx hc]| false =>
    grind
 |osl m s i len=>exact V3 (v:=.osl m s i len) hx h| _=>cases h
theorem CR {objs objs':List (Nat×Obj')}(hx:∀ n o,yK objs n=some o->yK objs' n=some o){v:PV}{K:PV->Prop}(h:ldV objs v K):ldV objs' v K:=by
 unfold ldV at *;cases hn:lnt objs v with
 |false =>
  rw[hn] at h;cases lnt objs' v with
  |false=>exact h| true=>exact⟨.inl h⟩
 |true =>
  rw[hn] at h;rw[CI hx hn];rcases h.h with hK|⟨n,s,els,h1,h2,h3⟩;{exact⟨.inl hK⟩};{exact⟨.inr ⟨n,s,els,hx _ _ h1,h2,h3⟩⟩}
theorem Ck {objs objs':List (Nat×Obj')}(hx:∀ n o,yK objs n=some o->yK objs' n=some o){t:Ty}{cs:List PV}{off:Nat}{K:PV->Prop}(h:rdK t cs off (λv=>ldV objs v K)):rdK t cs off (λv=>ldV objs' v K):=by grind [Zx,CR]
theorem Jc {b:Bool}{objs:List (Nat×Obj')}{g:FuncId}{args:List PV}{K:PV->Prop}(h:CallS b objs g args K):∃ pv,K pv/\∀ K':PV->Prop,K' pv->CallS b objs g args K':=by rcases h.h with⟨args',r,h1,h2,h3,h4⟩|⟨hb,hn,cargs,kept,r,h1,h2,h3,h4,h5,h6,h7,h8,h9,h10⟩;{exact⟨r,h4,λK' q=>⟨.inl ⟨args',r,h1,h2,h3,q⟩⟩⟩};{exact⟨_,h10,λK' q=>⟨.inr ⟨hb,hn,cargs,kept,r,h1,h2,h3,h4,h5,h6,h7,h8,h9,q⟩⟩⟩}
theorem Dx {objs:List (Nat×Obj')}{op:Op}{e:Operand->PV}{K:PV->Prop}(h:sop objs op e K):∃ pv,K pv/\∀ K':PV->Prop,K' pv->sop objs op e K':=by
 unfold sop at *;split at h;{grind};{grind};{exact TQ h};{grind}
 ·split at h
  all_goals grind
 ·split at h;{exact Zx h};{grind [Zx,Tf]}
  ·rename_i n s i off _;split at h
   ·rename_i s' els _;cases hss:nqb s s' with
    |false=>grind| true =>
     simp only[hss,cond_true] at h ⊢;obtain⟨c,h1,h2,h3,h4⟩:=h.h;obtain⟨pv,h5,h6⟩:=Zx h4;exact⟨pv,h5,λK' q=>⟨⟨c,h1,h2,h3,h6 K' q⟩⟩⟩
   ·rename_i s' rows hs _;cases hss:(nqb s 1&&nqb off 0) with
    |false=>grind| true =>
     simp only[hss] at h ⊢;obtain⟨v0,k0,h1,h2,h4⟩:=h.h;obtain⟨pv,h5,h6⟩:=Zx h4;exact⟨pv,h5,λK' q=>⟨⟨v0,k0,h1,h2,h6 K' q⟩⟩⟩
   ·rename_i cs _;cases hss:(nqb s 1&&nqb off 0) with
    |false=>grind| true =>
     simp only[hss] at h ⊢;obtain⟨h1,h4⟩:=h.h;obtain⟨pv,h5,h6⟩:=Zx h4;exact⟨pv,h5,λK' q=>⟨⟨h1,h6 K' q⟩⟩⟩
   grind
  grind
 {exact SQ h};{split at h;{grind};{grind};{grind};{grind};{exact Qx h};grind}
 ·rename_i src dst x;cases hno:(ty src).isNo with
  |true=>grind| false =>
   simp only[hno,cond_false] at h ⊢;split at h;{grind};grind
 ·split at h
  all_goals grind
 ·split at h
  ·split at h
   ·rename_i off sz ag hi;cases ag with
    |false =>
     (try simp only at h ⊢)
     grind
    |true =>
     (try simp only at h ⊢)
     grind
   grind
  grind
 {split at h;{obtain⟨h0,c,h1,h2,h3,h4⟩:=h.h;exact⟨_,h4,λ_ q=>⟨⟨h0,c,h1,h2,h3,q⟩⟩⟩};{grind};{obtain⟨j,h1,h2,h3⟩:=h.h;exact⟨_,h3,λ_ q=>⟨⟨j,h1,h2,q⟩⟩⟩};grind}
 ·split at h
  ·rename_i len z cs k kv _ _ _;cases hll:nqb len cs.length with
   |false=>grind| true =>
    simp only[hll,cond_true] at h ⊢;obtain⟨j,h1,h2,h3⟩:=h.h;exact⟨_,h3,λ_ q=>⟨⟨j,h1,h2,q⟩⟩⟩
  grind
 {grind}
 ·split at h;{grind}
  ·rename_i n b z m s o len _ _;split at h
   ·rename_i l hh e1 e2;cases hss:nqb n s with
    |false=>simp only[hss] at h| true =>
     simp only[hss] at h ⊢;obtain⟨h1,⟨h2⟩⟩:=h;rcases h2 with h2|h2;{exact⟨_,h2.2,λ_ q=>⟨h1,⟨.inl ⟨h2.1,q⟩⟩⟩⟩};{exact⟨_,h2.2,λ_ q=>⟨h1,⟨.inr ⟨h2.1,q⟩⟩⟩⟩}
   grind
  all_goals grind
 ·split at h
  ·rename_i n b z m s o len ky hh kz kk _ _ _ _;cases hss:nqb n s with
   |false=>simp only[hss] at h| true =>
    simp only[hss] at h ⊢;exact⟨_,h.2,λ_ q=>⟨h.1,q⟩⟩
  grind
 {grind};{grind};{split at h;{split at h;{unfold Te at *;grind};grind};{grind};{grind};{split at h;{exact Jc h};grind};grind};grind
theorem pF {e e':Operand->PV}:∀ {l:List Operand},(∀ x,x∈l->e x=e' x)->evs e l=evs e' l
 |[],_=>rfl| x::r,h=>by simp only[evs];rw[h x vH,pF λy hy=>h y (w6 _ hy)]
theorem bC {e e':Operand->PV}:∀ {l:List (Nat×Operand)},(∀ x,x∈l.map (·.2)->e x=e' x)->vA e l=vA e' l
 |[],_=>rfl| (i,x)::r,h=>by simp only[vA];rw[h x (by simp),bC λy hy=>h y (by grind)]
theorem XD {e e':Operand->PV}{d:Unit->Int}{o:Option Operand}(h:∀ x,o=some x->e x=e' x):iM e d o=iM e' d o:=by
 cases o with
 |none=>rfl| some x=>simp only[iM];grind
theorem Vy {objs:List (Nat×Obj')}{op:Op}{e e':Operand->PV}{K:PV->Prop}(h:∀ x,x∈op.operands.toList->e x=e' x)(hs:sop objs op e K):sop objs op e' K:=by
 cases op with
 |move x=>simp only[sop] at hs ⊢;rwa [<-h x (by simp[Op.operands])]| assign x=>simp only[sop] at hs ⊢;rwa [<-h x (by simp[Op.operands])]| pick c x y=>simp only[sop] at hs ⊢;rwa [<-h x (by simp[Op.operands]),<-h y (by simp[Op.operands]),<-h c (by simp[Op.operands])]| build t parts=>simp only[sop] at hs ⊢;rwa [<-bC (e:=e) λx hx=>h x (by grind [Op.operands])]| buildSlice t len parts=>simp only[sop] at hs ⊢;grind [bC,Op.operands]| load t a=>simp only[sop] at hs ⊢;rwa [<-h a (by simp[Op.operands])]| binOp b t x y yt=>simp only[sop] at hs ⊢;rwa [<-h x (by simp[Op.operands]),<-h y (by simp[Op.operands])]| unOp u t x=>simp only[sop] at hs ⊢;rwa [<-h x (by simp[Op.operands])]| convert s d x=>simp only[sop] at hs ⊢;rwa [<-h x (by simp[Op.operands])]| fieldAddr s x f=>simp only[sop] at hs ⊢;rwa [<-h x (by simp[Op.operands])]| field t x i=>simp only[sop] at hs ⊢;rwa [<-h x (by simp[Op.operands])]| indexAddr t x i=>simp only[sop] at hs ⊢;rwa [<-h x (by simp[Op.operands]),<-h i (by simp[Op.operands])]| index t x i=>simp only[sop] at hs ⊢;rwa [<-h x (by simp[Op.operands]),<-h i (by simp[Op.operands])]| extract x i=>simp only[sop] at hs ⊢;rwa [<-h x (by simp[Op.operands])]| slice t x lo hi mx =>
  have hx:=h x (by simp[Op.operands]);have hlo:∀ d,iM e d lo=iM e' d lo:=λd=>XD λy hy=>h y (by subst hy;simp[Op.operands]);have hhi:∀ d,iM e d hi=iM e' d hi:=λd=>XD λy hy=>h y (by subst hy;simp[Op.operands]);cases mx with
  |some m =>
   have hm:=h m (by simp[Op.operands]);cases lo with
   |some l=>simp only[sop] at hs| none =>
    cases hi with
    |none=>simp only[sop] at hs| some y =>
     have hy:=h y (by simp[Op.operands]);simp only[sop] at hs ⊢;simp only[<-hx,<-hy,<-hm];exact hs
  |none=>simp only[sop] at hs ⊢;simp only[<-hx,<-hlo,<-hhi];exact hs
 |nilCheck x=>simp only[sop] at hs ⊢;rwa [<-h x (by simp[Op.operands])]| makeFunc fn first caps =>
  cases fn with
  |func f =>
   simp only[sop] at hs ⊢;grind [pF,Op.operands]
  |_=>simp only[sop] at hs
 |call c =>
  have hargs:∀ x,x∈c.args.toList->e x=e' x:=λx hx=>h x (by grind [Op.operands,Call.operands]);simp only[sop] at hs ⊢;split at hs;{grind};{grind};{grind}
  all_goals grind [Op.operands,Call.operands,pF]
 |_=>simp only[sop] at hs
theorem SU {n b:Nat}{base x:PV}{K:PV->Prop}(h:Jl n b base x K):∃ pv,K pv/\∀ K':PV->Prop,K' pv->Jl n b base x K':=by unfold Jl at *;grind
theorem QA {op:Op}{e:Operand->PV}{K:PV->Prop}(h:BZ op e K):∃ (c:Call) (b x:Operand) (t tx:TypeId) (n bb:Nat) (z:List PV),op=.call c/\c.args=#[b,x]/\c.argTypes=#[t,tx]/\l4 (ty tx)=true/\ty t=.sli n bb z/\jN (e b)=true/\Jl n bb (e b) (e x) K:=by
 unfold BZ at h;split at h
 ·rename_i c;split at h
  ·rename_i b x t tx hb ht;cases hi:l4 (ty tx) with
   |false=>grind| true =>
    rw[hi] at h;simp only at h;split at h
    ·rename_i n bb z h1 h2;refine⟨c,b,x,t,tx,n,bb,z,rfl,?_,?_,hi,h1,h2,h⟩
     all_goals grind
    grind
  grind
 grind
theorem GK {c:Call}{b x:Operand}{t tx:TypeId}{n bb:Nat}{z:List PV}{e:Operand->PV}{K:PV->Prop}(h1:c.args=#[b,x])(h2:c.argTypes=#[t,tx])(h3:l4 (ty tx)=true)(h4:ty t=.sli n bb z)(h5:jN (e b)=true)(h6:Jl n bb (e b) (e x) K):BZ (.call c) e K:=by grind [BZ]
variable {nb:Bool}
theorem GV {op:Op}{c:Call}(h:Uj op=some c):op=.call c/\∃ f,c.callee=.value f:=by unfold Uj at h;grind
theorem nJ {objs:List (Nat×Obj')}{op:Op}{e:Operand->PV}{K:PV->Prop}(h:iF objs op e K):(Uj op=none/\sop objs op e K)\/∃ c f g caps,op=.call c/\c.callee=.value f/\Uj op=some c/\e f=.fn g caps/\CallS true objs g (evs e c.args.toList++caps) K:=by
 unfold iF at h;cases hv:Uj op with
 |none=>grind| some c =>
  obtain⟨h1,f,h2⟩:=GV hv;grind
theorem Uo {objs:List (Nat×Obj')}{op:Op}{e:Operand->PV}{K:PV->Prop}{c:Call}{f:Operand}{g:FuncId}{caps:List PV}(hv:Uj op=some c)(h2:c.callee=.value f)(he:e f=.fn g caps)(h:CallS true objs g (evs e c.args.toList++caps) K):iF objs op e K:=by grind [iF]
theorem Xd {objs:List (Nat×Obj')}{op:Op}{e:Operand->PV}{K:PV->Prop}(hv:Uj op=none)(h:sop objs op e K):iF objs op e K:=by grind [iF]
theorem AP {objs:List (Nat×Obj')}{op:Op}{e:Operand->PV}{K:PV->Prop}(h:iF objs op e K):∃ pv,K pv/\∀ K':PV->Prop,K' pv->iF objs op e K':=by grind [nJ,Dx,Xd,Jc,Uo]
theorem Wm {e e':Operand->PV}:∀ {l:List Operand},(∀ x,x∈l->e x=e' x)->evs e l=evs e' l
 |[],_=>rfl| x::r,h=>by simp only[evs];rw[h x vH,Wm λy hy=>h y (w6 _ hy)]
theorem JH {objs:List (Nat×Obj')}{op:Op}{e e':Operand->PV}{K:PV->Prop}(h:∀ x,x∈op.operands.toList->e x=e' x)(hs:iF objs op e K):iF objs op e' K:=by rcases nJ hs with⟨h1,h2⟩|⟨c,f,g,caps,h1,h2,h3,h4,h5⟩;{grind [Xd,Vy]};{subst h1;have hf:e f=e' f:=h f (by simp[Op.operands,Call.operands,h2]);refine Uo h3 h2 (hf ▸ h4) ?_;rw[<-Wm (e:=e) (e':=e') λx hx=>h x (by simp only[Op.operands,Call.operands,h2];simp;simp at hx;first|grind|exact .inl hx|exact hx)];exact h5}
theorem AQ {objs:List (Nat×Obj')}{op:Op}{e:Operand->PV}{K:PV->Prop}(h:gE nb objs op e K):∃ pv,K pv/\∀ K':PV->Prop,K' pv->gE nb objs op e K':=by
 unfold gE at *;cases hi:l5 op with
 |false =>
  rw[hi] at h;cases nb with
  |true=>exact AP h| false=>exact Dx h
 |true =>
  rw[hi] at h;obtain⟨c,b,x,t,tx,n,bb,z,rfl,h1,h2,h3,h4,h5,h6⟩:=QA h;grind [SU,GK]
theorem KC {op:Op}(h:l5 op=true):∃ c,op=.call c/\c.callee=.builtin .append:=by unfold l5 at h;grind
theorem JI {objs:List (Nat×Obj')}{op:Op}{e e':Operand->PV}{K:PV->Prop}(h:∀ x,x∈op.operands.toList->e x=e' x)(hs:gE nb objs op e K):gE nb objs op e' K:=by
 unfold gE at *;cases hi:l5 op with
 |false =>
  rw[hi] at hs;cases nb with
  |true=>exact JH h hs| false=>exact Vy h hs
 |true =>
  rw[hi] at hs;obtain⟨c',hc1,hc2⟩:=KC hi;obtain⟨c,b,x,t,tx,n,bb,z,rfl,h1,h2,h3,h4,h5,h6⟩:=QA hs;grind [Op.operands,Call.operands,GK]
def vL (nb:Bool) (objs:List (Nat×Obj')) (all:List Oper) (o:Oper) (τ:Nat->PV) (pv:PV):Prop :=
 kJ all o τ (λ_=>gE nb objs o.op (ev τ) (λv=>Le v pv)) (λ_=>pv=.tup [])
theorem mU {all:List Oper}{o:Oper}{τ:Nat->PV}{A B A' B':Unit->Prop}(hA:A ()->A' ())(hB:B ()->B' ())(h:kJ all o τ A B):kJ all o τ A' B':=by
 have br:∀ {v:PV} {A B A' B':Unit->Prop},(A ()->A' ())->(B ()->B' ())->brV v A B->brV v A' B':=by intro v A B A' B' hA hB h;unfold brV at *;split at h;{grind};{grind};{exact⟨λe=>hA (h.t e),λe=>hB (h.f e)⟩};{exact⟨λe=>hB (h.t e),λe=>hA (h.f e)⟩};omega
 unfold kJ at *;split at h;{grind};{rename_i j want hg;split at h;{rename_i oj hj;split at h;{rename_i d hd;by_cases hu:τ d=.tup [];{rw[hu] at h ⊢;exact hB h};rw[U8 hu] at h ⊢;grind};omega};omega}
theorem t8 {objs:List (Nat×Obj')}{all:List Oper}{o:Oper}{τ:Nat->PV}{K:PV->Prop}{K2:Prop}(h:kJ all o τ (λ_=>gE nb objs o.op (ev τ) K) (λ_=>K2)):(∃ pv,K pv/\∀ pv',Le pv pv'->vL nb objs all o τ pv')\/(K2/\vL nb objs all o τ (.tup [])):=by
 have pv1:gE nb objs o.op (ev τ) K->∃ pv,K pv/\∀ pv',Le pv pv'->gE nb objs o.op (ev τ) (λv=>Le v pv'):=λhs=>by grind [AQ]
 unfold kJ at h;split at h;{grind [vL,kJ]}
 ·rename_i j want hg;split at h
  ·rename_i oj hj;split at h
   ·rename_i d hd;by_cases hu:τ d=.tup [];{rw[hu] at h;exact .inr ⟨h,by unfold vL kJ;rw[hg];simp only[hj,hd,hu];exact trivial⟩}
    (rw[U8 hu] at h;have st:∀ pv',(if want then brV (τ d) (λ_=>gE nb objs o.op (ev τ) (λv=>Le v pv')) (λ_=>pv'=.tup []) else brV (τ d) (λ_=>pv'=.tup []) (λ_=>gE nb objs o.op (ev τ) (λv=>Le v pv')))->vL nb objs all o τ pv':=by grind [vL,kJ,U8]);have br:∀ {v:PV} {A:Prop},brV v (λ_=>A) (λ_=>K2)->(A/\∀ X Y:Unit->Prop,X ()->brV v X Y)\/(K2/\∀ X Y:Unit->Prop,Y ()->brV v X Y):=by
     intro v A hb;unfold brV at *;cases v with
     |tt=>grind| ff=>grind| bool b =>
      cases hv:b () with
      |true=>exact .inl ⟨hb.t hv,λ_ _ q=>⟨λ_=>q,λe=>by grind⟩⟩| false=>exact .inr ⟨hb.f hv,λ_ _ q=>⟨λe=>(by grind),λ_=>q⟩⟩
     |nbool b =>
      cases hv:b () with
      |true=>exact .inr ⟨hb.t hv,λ_ _ q=>⟨λ_=>q,λe=>by grind⟩⟩| false=>exact .inl ⟨hb.f hv,λ_ _ q=>⟨λe=>(by grind),λ_=>q⟩⟩
     |_=>exact hb.elim
    have br':∀ {v:PV} {A:Prop},brV v (λ_=>K2) (λ_=>A)->(A/\∀ X Y:Unit->Prop,Y ()->brV v X Y)\/(K2/\∀ X Y:Unit->Prop,X ()->brV v X Y):=by
     intro v A hb;unfold brV at *;cases v with
     |tt=>grind| ff=>grind| bool b =>
      cases hv:b () with
      |true=>exact .inr ⟨hb.t hv,λ_ _ q=>⟨λ_=>q,λe=>by grind⟩⟩| false=>exact .inl ⟨hb.f hv,λ_ _ q=>⟨λe=>(by grind),λ_=>q⟩⟩
     |nbool b =>
      cases hv:b () with
      |true=>exact .inl ⟨hb.t hv,λ_ _ q=>⟨λ_=>q,λe=>by grind⟩⟩| false=>exact .inr ⟨hb.f hv,λ_ _ q=>⟨λe=>(by grind),λ_=>q⟩⟩
     |_=>exact hb.elim
    cases want with
    |true =>
     simp only[cond_true] at h;rcases br h with⟨hA,hX⟩|⟨h2,hY⟩
     all_goals grind
    |false =>
     simp only[cond_false] at h;rcases br' h with⟨hA,hX⟩|⟨h2,hY⟩
     all_goals grind
   grind
  grind
theorem mN {all:List Oper}{o:Oper}{ps:PS}{pv:PV}{K:PS->Prop}(h:lS all o (put ps o.dst pv) K):∃ pv' ps',Le pv pv'/\K ps'/\ps'.objs=ps.objs/\zD ps'.tmps=upd (zD ps.tmps) o.dst pv':=by
 unfold lS at h;cases hg:isG all o with
 |false=>simp only[hg,cond_false] at h;grind [Le.refl,kG,xJ]| true =>
  simp only[hg,cond_true] at h;split at h
  ·(rename_i d hd;have hpv:zD (put ps o.dst pv).tmps d=pv:=by rw[xJ,hd];simp[upd]);have fin:∀ x,zD (vQ (put ps o.dst pv).tmps d x)=upd (zD ps.tmps) o.dst x:=by grind [gH,xJ,upd]
   rw[hpv] at h;split at h
   ·rename_i b;cases hv:b () with
    |true=>exact⟨.tt,_,by grind [Le],h.t hv,kG _ _ _,fin _⟩| false=>exact⟨.ff,_,by grind [Le],h.f hv,kG _ _ _,fin _⟩
   ·rename_i b;cases hv:b () with
    |true=>exact⟨.ff,_,by grind [Le],h.t hv,kG _ _ _,fin _⟩| false=>exact⟨.tt,_,by grind [Le],h.f hv,kG _ _ _,fin _⟩
   grind [Le.refl,kG,xJ]
  grind [Le.refl,kG,xJ]
theorem t9 {objs:List (Nat×Obj')}{all:List Oper}{o:Oper}{τ τ':Nat->PV}{pv:PV}(h:∀ t,t∈qR all o->τ t=τ' t)(hs:vL nb objs all o τ pv):vL nb objs all o τ' pv:=by
 have hop:∀ x,x∈o.op.operands.toList->ev τ x=ev τ' x:=by
  intro x hx;cases x with
  |tmp t=>exact h t (by unfold qR;grind)| _=>rfl
 have hs':kJ all o τ (λ_=>gE nb objs o.op (ev τ') (λv=>Le v pv)) (λ_=>pv=.tup []):=mU (λh=>JI hop h) id hs;unfold vL;unfold kJ at hs' ⊢;split at hs'
 all_goals grind [qR]
def uH:List Oper->List PV->(Nat->PV)->(Nat->PV)
 |o::l,v::vs,τ=>uH l vs (upd τ o.dst v)| _,_,τ=>τ
theorem QZ {all:List Oper}{K:PS->Prop}:∀ (l:List Oper) {ps:PS},iE nb all l ps K->∃ pvs ps',pvs.length=l.length/\K ps'/\ps'.objs=ps.objs/\zD ps'.tmps=uH l pvs (zD ps.tmps) /\ ∀ i o pv,l[i]?=some o->pvs[i]?=some pv->vL nb ps.objs all o (uH (l.take i) (pvs.take i) (zD ps.tmps)) pv
 |[],ps,h=>⟨[],ps,rfl,h,rfl,rfl,λi o pv h=>by simp at h⟩| o::r,ps,h=>by
  simp only[iE] at h;obtain⟨pv,ps1,h1,ho1,ht1,h2⟩:∃ pv ps1,iE nb all r ps1 K/\ps1.objs=ps.objs/\zD ps1.tmps=upd (zD ps.tmps) o.dst pv/\vL nb ps.objs all o (zD ps.tmps) pv:=by
   rcases t8 h with⟨pv,q1,q2⟩|⟨q1,q2⟩
   all_goals grind [mN,kG,xJ]
  obtain⟨pvs,ps',g1,g2,g3,g4,g5⟩:=QZ r h1;refine⟨pv::pvs,ps',by simp[g1],g2,g3.trans ho1,by rw[g4,ht1];rfl,λi o' pv' hi hp=>?_⟩;cases i with
  |zero =>
   simp only[l8,t5] at hi hp;subst hi hp;exact h2
  |succ i =>
   simp only[m8] at hi hp;have:=g5 i o' pv' hi hp;rw[ho1,ht1] at this;exact this
theorem Q1 {objs objs':List (Nat×Obj')}{op:Op}{e:Operand->PV}{K:PV->Prop}(hx:∀ n o,yK objs n=some o->yK objs' n=some o)(h:sop objs op e K):sop objs' op e K:=by
 cases op with
 |load t a =>
  unfold sop at h ⊢;simp only at h ⊢;split at h;{exact h}
  ·rename_i n off he;cases ho:yK objs n with
   |none=>grind| some o =>
    rw[ho] at h;rw[hx _ _ ho];cases o with
    |box cs=>exact Ck hx h| _=>exact h.elim
  all_goals grind
 |makeFunc fn first caps=>cases fn <;> exact h
 |slice t x lo hj mx=>cases lo <;> cases hj <;> cases mx <;> exact h
 |_=>exact h
theorem oV {objs objs':List (Nat×Obj')}{h:Nat->Nat}(hx:∀ n o,yK objs n=some o->yK objs' n=some o):∀ {l:List (Nat×Obj')},uA h objs l->uA h objs' l
 |[],_=>trivial| (n,o)::r,H=>⟨⟨hx _ _ H.1.1,H.1.2⟩,oV hx H.2⟩
theorem G8 {objs objs':List (Nat×Obj')}{op:Op}{e:Operand->PV}{K:PV->Prop}(hx:∀ n o,yK objs n=some o->yK objs' n=some o)(h:iF objs op e K):iF objs' op e K:=by rcases nJ h with⟨h1,h2⟩|⟨c,f,g,caps,h1,h2,h3,h4,h5⟩;{grind [Xd,Q1]};{refine Uo h3 h2 h4 ?_;rcases h5.h with q|⟨hb,hn,cargs,kept,r,q1,q2,q3,q4⟩;{exact⟨.inl q⟩};{exact⟨.inr ⟨hb,hn,cargs,kept,r,q1,q2,oV hx q3,q4⟩⟩}}
theorem Vz {objs objs':List (Nat×Obj')}{op:Op}{e:Operand->PV}{K:PV->Prop}(hx:∀ n o,yK objs n=some o->yK objs' n=some o)(h:gE nb objs op e K):gE nb objs' op e K:=by
 unfold gE at *;cases hi:l5 op with
 |false =>
  rw[hi] at h;cases nb with
  |true=>exact G8 hx h| false=>exact Q1 hx h
 |true=>grind
theorem JJ {objs objs':List (Nat×Obj')}{o:Oper}{e:Operand->PV}{K:PV->Prop}(hb:GI o=true)(h:gE false objs o.op e K):gE false objs' o.op e K:=by
 unfold gE at *;cases hi:l5 o.op with
 |true=>grind| false =>
  rw[hi] at h;simp only at h ⊢;unfold GI at hb;unfold sop at h ⊢;generalize o.op=op at *;cases op with
  |load t a=>cases hb
  |makeFunc fn first caps=>cases fn <;> exact h
  |slice t x lo hj mx=>cases lo <;> cases hj <;> cases mx <;> exact h
  |_=>exact h
def Y9 (nb:Bool) (objs:List (Nat×Obj')) (all:List Oper) (o:Oper) (τ:Nat->PV) (pv:PV):Prop :=
 match vD o with
 |some (d,_)=>pv=.ptr d 0| none=>vL nb objs all o τ pv
theorem gY {o:Oper}{d:Nat}{x:Obj'}(h:vD o=some (d,x)):o.guard=none/\o.dst=some d/\∃ t,o.op=.alloc t/\(ty t).isNo=false/\x=.box (ty t).zero:=by unfold vD at h;grind
theorem AO {objs:List (Nat×Obj')}{all:List Oper}{o:Oper}{τ:Nat->PV}{pv:PV}(h:vL nb objs all o τ pv):vD o=none/\Y9 nb objs all o τ pv:=by
 cases hm:vD o with
 |none=>exact⟨rfl,by grind [Y9]⟩| some x =>
  obtain⟨d,x⟩:=x;obtain⟨hg,hd,t,ht,hn,hx⟩:=gY hm;unfold vL kJ at h;rw[hg] at h;simp only[ht] at h;unfold gE l5 at h;simp only at h;cases nb with
  |true =>
   simp only[iF,Uj] at h;unfold sop at h;exact h.elim
  |false =>
   simp only at h;unfold sop at h;exact h.elim
theorem Fs {all:List Oper}{K:PS->Prop}:∀ (l:List Oper) {ps:PS},rH all l ps K->∃ pvs ps',pvs.length=l.length/\K ps'/\ps'.objs=ps.objs/\zD ps'.tmps=uH l pvs (zD ps.tmps) /\ ∀ i o pv,l[i]?=some o->pvs[i]?=some pv->Y9 true ps.objs all o (uH (l.take i) (pvs.take i) (zD ps.tmps)) pv
 |[],ps,h=>⟨[],ps,rfl,h,rfl,rfl,λi o pv h=>by simp at h⟩| o::r,ps,h=>by
  obtain⟨pv,ps1,h1,ho1,ht1,h2⟩:∃ pv ps1,rH all r ps1 K/\ps1.objs=ps.objs/\zD ps1.tmps=upd (zD ps.tmps) o.dst pv/\Y9 true ps.objs all o (zD ps.tmps) pv:=by
   cases hm:vD o with
   |some x =>
    obtain⟨d,x⟩:=x;simp only[rH,hm] at h;obtain⟨hg,hd,_⟩:=gY hm;exact⟨.ptr d 0,_,h,kG _ _ _,by rw[xJ,hd],by grind [Y9]⟩
   |none =>
    simp only[rH,hm] at h;rcases t8 h with⟨pv,q1,q2⟩|⟨q1,q2⟩
    all_goals grind [mN,AO,kG,xJ]
  obtain⟨pvs,ps',g1,g2,g3,g4,g5⟩:=Fs r h1;refine⟨pv::pvs,ps',by simp[g1],g2,g3.trans ho1,by rw[g4,ht1];rfl,λi o' pv' hi hp=>?_⟩;cases i with
  |zero =>
   simp only[l8,t5] at hi hp;subst hi hp;exact h2
  |succ i =>
   simp only[m8] at hi hp;have:=g5 i o' pv' hi hp;rw[ho1,ht1] at this;exact this
theorem QS:∀ {l:List Oper} {pvs:List PV} {τ:Nat->PV} {j t:Nat} {o:Oper} {pv:PV},dQ l=true->l[j]?=some o->pvs[j]?=some pv->o.dst=some t->uH l pvs τ t=pv
 |o'::r,v::vs,τ,0,t,o,pv,hd,hl,hp,ht=>by
  simp only[l8,t5] at hl hp;subst hl hp;simp only[dQ,xA,ht] at hd;have:∀ (l:List Oper) (vs:List PV) (τ:Nat->PV),(l.all λx=>!(x.dst == some t))=true->uH l vs τ t=τ t:=by
   intro l;induction l with
   |nil=>intro vs τ _;cases vs <;> rfl
   |cons x l ih =>
    intro vs τ h;cases vs with
    |nil=>rfl| cons v vs =>
     simp only[Jq,xA] at h;simp only[uH];rw[ih vs _ h.2];cases hx:x.dst with
     |none=>rfl| some d =>
      (have:d≠t:=by grind);simp[upd,Ne.symm this]
  simp only[uH];rw[this r vs _ hd.1];simp[upd,ht]
 |o'::r,v::vs,τ,j+1,t,o,pv,hd,hl,hp,ht=>by simp only[m8] at hl hp;simp only[dQ,xA] at hd;simp only[uH];exact QS hd.2 hl hp ht| [],_,_,_,_,_,_,_,hl,_,_=>by grind| _::_,[],_,_,_,_,_,_,_,hp,_=>by grind
theorem Vq:∀ {l:List Oper} {pvs:List PV} {τ:Nat->PV} {t:Nat},(∀ (j:Nat) (o:Oper),l[j]?=some o->o.dst≠some t)->uH l pvs τ t=τ t
 |o::r,v::vs,τ,t,h=>by
  simp only[uH];rw[Vq λj o' hj=>h (j+1) o' (by grind)];have:=h 0 o (by simp);cases hx:o.dst with
  |none=>rfl| some d =>
   (have hne:d≠t:=by grind);simp[upd,Ne.symm hne]
 |[],_,_,_,_=>by simp[uH]| _::_,[],_,_,_=>by simp[uH]
theorem Yl:∀ {l:List Oper} (k:Nat),dQ l=true->dQ (l.take k)=true
 |[],k,_=>by grind| o::r,0,_=>rfl| o::r,k+1,h=>by simp only[GM,dQ,xA] at h ⊢;refine⟨?_,Yl k h.2⟩;grind
theorem pI:∀ {l:List Oper} {i j:Nat} {o o':Oper} {t:Nat},dQ l=true->l[i]?=some o->l[j]?=some o'->o.dst=some t->o'.dst=some t->i=j
 |x::r,0,0,o,o',t,_,_,_,_,_=>rfl| x::r,0,j+1,o,o',t,h,hi,hj,ht,ht'=>by simp only[l8,t5] at hi;simp only[m8] at hj;subst hi;simp only[dQ,xA,ht,bX] at h;grind| x::r,i+1,0,o,o',t,h,hi,hj,ht,ht'=>by simp only[l8,t5] at hj;simp only[m8] at hi;subst hj;simp only[dQ,xA,ht',bX] at h;grind| x::r,i+1,j+1,o,o',t,h,hi,hj,ht,ht'=>by simp only[m8] at hi hj;simp only[dQ,xA] at h;rw[pI h.2 hi hj ht ht']| [],_,_,_,_,_,_,hi,_,_,_=>by grind
end Go.Proofs.YtboocdbmnfjomaaGreat
