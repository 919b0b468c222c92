/- A part of the proof: PmN. -/
import Derived.Test.YtfainocfaddbdaaGreatU10
set_option linter.all false
namespace Go.Proofs.YtfainocfaddbdaaGreat
open Go
section
variable {w0:World} {S0:Nat->Nat->Prop} {K0:Nat->Prop} {N:Cx} {τ:Nat->PV} {objs:List (Nat×Obj')} {a:Act} {w w':World} {S S':Nat->Nat->Prop} {β:Bm}
theorem dV {o:Oper}{ps:PS}{K:PS->Prop}{Km:Act->World->Prop}{Q:Exit->Act->World->Prop}(h:Sim w0 S0 K0 N (zA ps.tmps) ps.objs a w S β)(hs:cT o ps K)(hd:∀ t,o.dst=some t->t<N) (hk:∀ ps' a' w' S' β',K ps'->Sim w0 S0 K0 N (zA ps'.tmps) ps'.objs a' w' S' β'->Km a' w'):o.wp Pg a w Km Q:=by
 have hsop:sop ps.objs o.op (ev (zA ps.tmps)) (fun v=>K (put ps o.dst v))->o.wp Pg a w Km Q:=fun hs =>
  oW h hs fun pv w' S' v hK l hr=>hk _ _ _ _ _ hK (vK (h.go l) o.dst hd hr)
 unfold cT at hs;split at hs;{rename_i t ad hop;split at hs;{obtain⟨ps',hw,hs⟩:=hs.h;obtain⟨S1,β1,h1⟩:=hw.sound h;exact oW h1 (by rw[hop];exact hs) fun pv w' S' v hK l hr=>hk _ _ _ _ _ hK (vK (h1.go l) o.dst hd hr)};{exact hsop (by rw[hop] at hs ⊢;exact hs)}}
 ·rename_i t hop;split at hs
  ·rename_i d hod;cases hno:(ty t).isNo with
   |true=>simp[hno] at hs| false =>
    simp only[hno,cond_false] at hs;obtain⟨i,zv,h1,h2,h3⟩:=zNJ (w:=w) (S:=S) (β:=β) hno;have hz:w6 d (ty t).zero=true:=by
     cases hty:ty t with
     |no=>simp[hty,Ty.isNo] at hno| sc z=>obtain⟨_,_,zv',_,_,_,_,_,_,h7,_⟩:=zK1 hty;rw[h7];simp only[Ty.zero,w6,yV,zMN];unfold vN;split <;> rfl
     |st n fs z =>
      obtain⟨_,_,zs,_,_,_,_,_,_,h7,_⟩:=zGU hty;rw[h7];simp only[Ty.zero];generalize zs.toList=l;induction l with
      |nil=>rfl| cons x l ih=>simp only[uC,w6,yV,y9];exact⟨by unfold vN;split <;> rfl,ih⟩
     |arr len n ag z =>
      obtain⟨_,_,zs,_,_,_,_,_,_,_,_,_,_,h7⟩:=lK hty;rw[h7];simp only[Ty.zero];generalize zs.toList=l;induction l with
      |nil=>rfl| cons x l ih=>simp only[uC,w6,yV,y9];exact⟨by unfold vN;split <;> rfl,ih⟩
     |sli n b z=>rfl
    refine eL (T:=t) hod (hd d hod) h hs h3 ?_ hk hz;simp[execOp,hop,Instr.alloc,tQ h1 h2,newVar,newRow]
  {exact hs.elim}
 ·rename_i t x hop;split at hs
  ·rename_i d hod;cases hp:gV (ev (zA ps.tmps) x) with
   |false=>simp[hp] at hs| true =>
    simp only[hp,cond_true] at hs;have hr:=h.eval x;have hz:yJ d ps=true->w6 d (yP (ev (zA ps.tmps) x))=true:=by
     intro hf;simp only[yJ,y9] at hf;have hx:xV d (ev (zA ps.tmps) x)=true:=by
      cases x with
      |tmp t=>exact vD hf.1 t| const v=>simp only[ev];unfold vN;split <;> rfl
      |global g=>rfl| func f=>rfl
     generalize ev (zA ps.tmps) x=y at hx hp;cases y with
     |agg cs =>
      have:∀ (l:List PV),yV (rf1 d) l=true->w6 d l=true:=by
       intro l;induction l with
       |nil=>intro _;rfl
       |cons c l ih =>
        intro hl;simp only[yV,y9] at hl;simp only[w6,yV,y9];refine⟨?_,ih hl.2⟩;have h1:=hl.1;have up:∀ (l:List PV),yV (rf0 d) l=true->yV (rf1 d) l=true:=by
         intro l;induction l with
         |nil=>intro _;rfl
         |cons e l ih2 =>
          intro hl;simp only[yV,y9] at hl ⊢;exact⟨by cases e <;> first|(simp[rf0] at hl;done)|exact hl.1,ih2 hl.2⟩
        cases c <;> first|exact h1|exact up _ h1
      exact this cs hx
     |tup cs=>simp[gV,pT] at hp| _=>simpa only [yP,w6,yV,zMN] using hx
    have hfree:yJ d ps=true:=by
     unfold zE2 at hs;cases hf:yJ d ps with
     |false=>simp[hf] at hs| true=>rfl
    refine eL (T:=t) hod (hd d hod) h hs (j4 hr hp) ?_ hk (hz hfree);simp[execOp,hop,Instr.box,newVar,newRow]
  {exact hs.elim}
 ·rename_i t ad vl hop;split at hs
  ·rename_i n off ha;split at hs
   ·rename_i cs ho;cases hc:(nqb (yP (ev (zA ps.tmps) vl)).length (ty t).cells&&nle (off+(ty t).cells) cs.length&&nlt 0 (ty t).cells&&yV pT (yP (ev (zA ps.tmps) vl))) with
    |false=>simp only[hc,cond_false] at hs| true =>
     simp only[hc,cond_true] at hs;simp only[y9] at hc;exact zPA hop hd h ha ho (yM hc.1.1.1) (t8 hc.1.1.2) (by have:=hc.1.2;simp[nlt] at this;omega) hc.2 hs hk
   {exact hs.elim}
  ·rename_i n s i off ha;split at hs
   ·rename_i s' els ho;cases hc:(nqb s s'&&nqb (yP (ev (zA ps.tmps) vl)).length (ty t).cells&&nle (off+(ty t).cells) s&&nlt 0 (ty t).cells&&yV oJ (yP (ev (zA ps.tmps) vl))) with
    |false=>simp only[hc,cond_false] at hs| true =>
     simp only[hc,cond_true] at hs;simp only[y9] at hc;have:=yM hc.1.1.1.1;subst this;exact zPB hop hd h ha ho (yM hc.1.1.1.2) (t8 hc.1.1.2) (by have:=hc.1.2;simp[nlt] at this;omega) hc.2 hs hk
   ·rename_i s' rows hs0 ho;cases hc:(nqb s 1&&nqb off 0&&nqb (ty t).cells 1&&oneC (ev (zA ps.tmps) vl)) with
    |false=>simp only[hc] at hs| true =>
     simp only[hc] at hs;simp only[y9] at hc;have e1:=yM hc.1.1.1;have e2:=yM hc.1.1.2;subst e1 e2;exact zO9 hop hd h ha ho (yM hc.1.2) hc.2 hs hk
   {exact hs.elim}
  {exact hs.elim}
 ·rename_i t len parts hop;split at hs
  ·rename_i d n b z hod ht;cases hor:zIL (rV n (uP (ev (zA ps.tmps)) parts.toList) (pD z len)) with
   |none =>
    rw[hor] at hs;cases he:(nqb len 0&&zHH parts.toList) with
    |false =>
     simp only[he] at hs;cases hfm:isFm z with
     |false=>simp only[hfm] at hs;exact hsop (by rw[hop] at hs ⊢;exact hs)| true =>
      simp only[hfm] at hs;split at hs
      ·rename_i els hfe;cases hc:(nle (len*n) 1000&&tC els) with
       |false=>simp only[hc] at hs| true =>
        simp only[hc] at hs;rcases hs.h with hs|⟨hfr,hs⟩;{refine hsop ?_;rw[hop];simp only[sop,ht,hfe,hc];rw[hod];exact hs};{simp only[y9] at hc;exact zBH hop hod (hd d hod) h ht hfe (t8 hc.1) hc.2 hfr hs hk}
      {exact hs.elim}
    |true =>
     simp only[he] at hs;simp only[y9] at he;cases hfr:yJ d ps with
     |false=>simp only[hfr] at hs| true=>simp only[hfr] at hs;exact zGS hop hod (hd d hod) h ht (yM he.1) he.2 hfr hs hk
   |some p =>
    obtain⟨k,s,o',len'⟩:=p;simp only[hor] at hs;cases hc:(nqb n 1&&nqb len 1 && !(nqb k d)&&yJ d ps) with
    |false=>simp only[hc] at hs| true =>
     simp only[hc] at hs;simp only[y9] at hc;have e1:=yM hc.1.1.1;have e2:=yM hc.1.1.2;subst e1 e2;exact zBI hop hod (hd d hod) h ht rfl (zH8 hor) (by simpa only [xV,rf0] using hc.1.2) hc.2 hs hk
  {exact hsop (by rw[hop] at hs ⊢;exact hs)}
 ·rename_i t l c hop;split at hs
  ·rename_i n b z d x y ht hod hl hc;obtain⟨hR,hM,hs⟩:=hs;cases hf:(yJ d ps&&yV oJ z) with
   |false=>simp only[hf,cond_false] at hs| true =>
    simp only[hf,cond_true] at hs;simp only[y9] at hf;exact zLX hop hod (hd d hod) h ht hl hc hR hM hf.1 hf.2 hs hk
  {exact hs.elim}
 ·rename_i c hop;split at hs;{rename_i g hcl;obtain⟨ps',hw,f,caps,hf,hs⟩:=hs.h;obtain⟨S1,β1,h1⟩:=hw.sound h;rcases hs with⟨args',r,hle,hso,hnm,hK⟩|⟨hn,cargs,kept,eaten,r,kept',made,hle,hso,hobj,hnd1,hnd2,hclo,hnd3,hfree,hlv,hlr,hnm,hK⟩;{exact mJ hop hcl h1 hf ⟨args',r,hle,hso,hnm,hK⟩ fun pv w' S' v hK' l hr=>hk _ _ _ _ _ hK' (vK (h1.go l) o.dst hd hr)};{exact zIF hop hcl hd h1 hf hle hso hobj hnd1 hnd2 hclo hnd3 hfree hlv hlr hnm hK hk}}
  ·rename_i hcl;split at hs
   ·rename_i b x t tx ha ht;cases htx:lF (ty tx) with
    |false=>simp[htx] at hs| true =>
     simp only[htx,cond_true] at hs;rcases hs.h with hs|hs
     case inr =>
      obtain⟨ps',d,nm,b',z,m,m',s,o1,len,rows,o2,len',rows',hw,hod,hty,g1,g2,g3,g4,g5,g6,g7,g8,g9,g10,g11,g12,g13⟩:=hs.h;obtain⟨S1,β1,h1⟩:=hw.sound h;exact zL8 hop hcl (by rw[<-lJ (xs:=c.args),ha]) (by rw[<-lJ (xs:=c.argTypes),ht]) htx hod (hd d hod) h1 hty g1 g2 g3 g4 g5 g6 g7 g8 g9 g10 g11 g12 g13 hk
     obtain⟨ps',d,nm,n,b',z,xs,hw,hod,hty,hx,hwid,hs⟩:=hs.h;obtain⟨S1,β1,h1⟩:=hw.sound h;exact zQL hop hcl (by rw[<-lJ (xs:=c.args),ha]) (by rw[<-lJ (xs:=c.argTypes),ht]) htx hod (hd d hod) h1 hty hx hwid hs hk
   {exact hs.elim}
  {exact hsop hs};{exact hs.elim}
 {rename_i t x yt hop;split at hs;{rename_i n b z els ht hx;have hr:=h.eval x;rw[hx] at hr;obtain⟨pv,val,h1,h2,h3⟩:=zGQ (w:=w) (S:=S) (β:=β) (x:=x) ht hr hs;refine jC (v:=val) (w':=w) ?_ (hk _ _ _ _ _ h1 (vK h o.dst hd h3));simp only[execOp,hop,Sem.run_bind] at h2 ⊢;have:a.eval (.const (.slice none 0 0))=.slice none 0 0:=rfl;simp[this,h2]};{rename_i n b z m s oo len ht hx;have hr:=h.eval x;rw[hx] at hr;obtain⟨pv,val,h1,h2,h3⟩:=zGP (w:=w) (S:=S) (β:=β) (x:=x) ht hr hs;refine jC (v:=val) (w':=w) ?_ (hk _ _ _ _ _ h1 (vK h o.dst hd h3));simp only[execOp,hop,Sem.run_bind] at h2 ⊢;have:a.eval (.const (.slice none 0 0))=.slice none 0 0:=rfl;simp[this,h2]};{rename_i n b z ht hx;have hr:=h.eval x;rw[hx] at hr;have h2:=zLV (w:=w) (x:=x) ht;refine jC (v:=.bool true) (w':=w) ?_ (hk _ _ _ _ _ hs (vK h o.dst hd (rH (fun _=>true))));simp only[execOp,hop,Sem.run_bind] at h2 ⊢;have:a.eval (.const (.slice none 0 0))=.slice none 0 0:=rfl;simp[this,gQ hr,h2]};{exact hs.elim}};{rename_i t x yt hop;split at hs;{rename_i n b z els ht hx;have hr:=h.eval x;rw[hx] at hr;obtain⟨pv,val,h1,h2,h3⟩:=zEO (K:=fun v=>K (put ps o.dst v)) (w:=w) (S:=S) (β:=β) (x:=x) ht hr hs;refine jC (v:=val) (w':=w) ?_ (hk _ _ _ _ _ h1 (vK h o.dst hd h3));simp only[execOp,hop,Sem.run_bind] at h2 ⊢;have:a.eval (.const (.slice none 0 0))=.slice none 0 0:=rfl;simp[this,h2]};{rename_i n b z m s oo len ht hx;have hr:=h.eval x;rw[hx] at hr;obtain⟨pv,val,h1,h2,h3⟩:=zEN (K:=fun v=>K (put ps o.dst v)) (w:=w) (S:=S) (β:=β) (x:=x) ht hr hs;refine jC (v:=val) (w':=w) ?_ (hk _ _ _ _ _ h1 (vK h o.dst hd h3));simp only[execOp,hop,Sem.run_bind] at h2 ⊢;have:a.eval (.const (.slice none 0 0))=.slice none 0 0:=rfl;simp[this,h2]};{rename_i n b z ht hx;have hr:=h.eval x;rw[hx] at hr;have h2:=zH9 (w:=w) (x:=x) ht;refine jC (v:=.bool false) (w':=w) ?_ (hk _ _ _ _ _ hs (vK h o.dst hd (tW (fun _=>true))));simp only[execOp,hop,Sem.run_bind] at h2 ⊢;have:a.eval (.const (.slice none 0 0))=.slice none 0 0:=rfl;simp[this,gQ hr,h2]};{exact hs.elim}};{exact hsop hs}
theorem zIO {want:Bool}{v:PV}{A B:Unit->Prop}(h:v≠.tup []):gdV want v A B=(match want with|true=>brV v A B|false=>brV v B A):=by unfold gdV;split;{exact absurd rfl h};{rfl}
theorem nA (w:World)(S:Nat->Nat->Prop)(β:Bm):Rep w S β undef (.tup []):=.tup rfl fun j hj=>absurd hj (by simp)
theorem j2 {ops:List Oper}{o:Oper}{A B:Unit->Prop}(ht:∀ t,Rep w S β (a.tmps.getD t undef) (τ t))(h:qS ops o τ A B):(Region.wanted o (yielded ops.toArray a.tmps)=true/\A ())\/(Region.wanted o (yielded ops.toArray a.tmps)=false/\B ()):=by
 unfold qS at h;split at h;{rename_i hg;exact .inl ⟨by simp[Region.wanted,hg],h⟩}
 ·rename_i j want hg;split at h
  ·rename_i oj hj;split at h
   ·rename_i d hd;have key:∀ b,a.tmps.getD d undef=.bool b->Region.wanted o (yielded ops.toArray a.tmps)=(b == want):=by
     intro b hb;have hlt:a.tmps[d]?=some (.bool b):=by
      cases hx:a.tmps[d]? with
      |none =>
       (have:a.tmps.getD d undef=undef:=by simp[hx]);rw[this] at hb
       cases hb
      |some v =>
       (have:a.tmps.getD d undef=v:=by simp[hx]);rw[this] at hb
       rw[hb]
     simp[Region.wanted,hg,yielded,hj,hd,hlt]
    by_cases hu:τ d=.tup []
    ·have hr:=ht d;rw[hu] at hr h;refine .inr ⟨?_,h⟩;have hv:∀ b,a.tmps.getD d undef≠.bool b:=by
      intro b hb;rw[hb] at hr;cases hr with
      |c hf _=>cases hf
     cases hx:a.tmps[d]? with
     |none=>simp[Region.wanted,hg,yielded,hj,hd,hx]| some v =>
      (have e:a.tmps.getD d undef=v:=by simp[hx]);cases v with
      |bool b=>exact absurd e (hv b)| _=>simp[Region.wanted,hg,yielded,hj,hd,hx]
    rw[zIO hu] at h;cases want with
    |true =>
     simp only[cond_true] at h;obtain⟨b,hb,h1,h2⟩:=zAR (ht d) h;cases b with
     |true=>exact .inl ⟨by rw[key true hb];rfl,h1 rfl⟩| false=>exact .inr ⟨by rw[key false hb];rfl,h2 rfl⟩
    |false =>
     simp only[cond_false] at h;obtain⟨b,hb,h1,h2⟩:=zAR (ht d) h;cases b with
     |true=>exact .inr ⟨by rw[key true hb];rfl,h1 rfl⟩| false=>exact .inl ⟨by rw[key false hb];rfl,h2 rfl⟩
   {exact h.elim}
  {exact h.elim}
theorem zAZ {ops:List Oper}{o:Oper}{ps:PS}{K:PS->Prop}(h:Sim w0 S0 K0 N (zA ps.tmps) ps.objs a w S β)(hs:lD ops o ps K):∃ ps',K ps'/\Sim w0 S0 K0 N (zA ps'.tmps) ps'.objs a w S β:=by
 unfold lD at hs;cases hg:isG ops o with
 |false=>simp only[hg,cond_false] at hs;exact⟨ps,hs,h⟩| true =>
  simp only[hg,cond_true] at hs;split at hs
  ·rename_i d hd;have hr:=h.tmp d;split at hs
   ·rename_i b hb;rw[hb] at hr;cases hv:b () with
    |true=>exact⟨_,hs.t hv,h.setT (hr.le .tt (by simpa[Le] using hv))⟩| false=>exact⟨_,hs.f hv,h.setT (hr.le .ff (by simpa[Le] using hv))⟩
   ·rename_i b hb;rw[hb] at hr;cases hv:b () with
    |true=>exact⟨_,hs.t hv,h.setT (hr.le .ff (by simpa[Le] using hv))⟩| false=>exact⟨_,hs.f hv,h.setT (hr.le .tt (by simpa[Le] using hv))⟩
   {exact⟨ps,hs,h⟩}
  {exact⟨ps,hs,h⟩}
def rX (N:Nat) (o:Oper):Bool :=
 match o.dst with
 |none=>true| some d=>decide (d<N)
theorem aP {o:Oper}(h:rX N o=true):∀ t,o.dst=some t->t<N:=by intro t ht;simpa[rX,ht] using h
theorem sG {ops:List Oper}{Q:Exit->Act->World->Prop}{K:PS->Prop}(hk:∀ ps' a' w' S' β',K ps'->Sim w0 S0 K0 N (zA ps'.tmps) ps'.objs a' w' S' β'->Q .normal a' w'):∀ (l:List Oper) {ps:PS} {a:Act} {w:World} {S:Nat->Nat->Prop} {β:Bm},(∀ o,o∈l->rX N o=true)->Sim w0 S0 K0 N (zA ps.tmps) ps.objs a w S β->qY ops l ps K->wpList Pg ops.toArray Q l a w
 |[],ps,a,w,S,β,_,h,hs=>hk _ _ _ _ _ hs h| o::r,ps,a,w,S,β,hd,h,hs=>by simp only[qY] at hs;simp only[wpList];have hdo:=aP (hd o xD);rcases j2 h.tmp hs with⟨hw,hA⟩|⟨hw,hB⟩;{rw[if_pos hw];exact .inl (dV h hA hdo fun ps' a' w' S' β' hK hsim=>by obtain⟨ps'',hK',hsim'⟩:=zAZ hsim hK;exact sG hk r (fun o ho=>hd o (xI _ ho)) hsim' hK')};{rw[if_neg (by rw[hw];simp)];exact sG hk r (fun o ho=>hd o (xI _ ho)) (vK h o.dst hdo (nA _ _ _)) hB}
end
end Go.Proofs.YtfainocfaddbdaaGreat
