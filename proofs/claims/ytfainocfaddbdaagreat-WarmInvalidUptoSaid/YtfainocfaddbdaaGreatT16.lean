/- A part of the proof: PnB. -/
import Derived.Test.YtfainocfaddbdaaGreatT15
set_option linter.all false
namespace Go.Proofs.YtfainocfaddbdaaGreat
def pad (n m:Nat):List UInt32:=zD n++List.replicate (m-(zD n).length) 0
theorem zEZ {l:List UInt32}{n m:Nat}(hl:l.length=m)(hv:val l=n):l=pad n m:=by
 have h1:(zD n).length<=m:=by rw[<-hv,<-hl];exact zT l
 refine nC ?_ ?_;{simp[pad];omega};{rw[pad,wD,kH,zK,hv];omega}
theorem fD {n m:Nat}(h:n<B^m):(pad n m).length=m:=by have:=z4 h;simp[pad];omega
theorem rI (n m:Nat):val (pad n m)=n:=by rw[pad,wD,kH,zK];omega
theorem zH1 {l:List UInt32}{n:Nat}(hl:l.length=n+2):val l=val (l.take n)+B^n*((l.getD (n+1) 0).toNat*B+(l.getD n 0).toNat):=by have h1:=zR l n;have h2:=zR l (n+1);rw[List.take_of_length_le (by omega)] at h2;rw[h2,h1,Nat.pow_succ,Nat.mul_add,Nat.mul_assoc,Nat.mul_comm B];omega
theorem zH0 {l:List UInt32}{n:Nat}(hl:l.length=n+3):val l=val (l.take n)+B^n*(((l.getD (n+2) 0).toNat*B+(l.getD (n+1) 0).toNat)*B+(l.getD n 0).toNat):=by
 have h1:=zR l n;have h2:=zR l (n+1);have h3:=zR l (n+2);rw[List.take_of_length_le (by omega)] at h3;rw[h3,h2,h1];have e:B^(n+2)=B^n*(B*B):=by rw[Nat.pow_succ,Nat.pow_succ,Nat.mul_assoc]
 rw[e,Nat.pow_succ,Nat.mul_add,Nat.add_mul,Nat.mul_add,Nat.mul_assoc,Nat.mul_assoc];rw[Nat.mul_comm (B*B),<-Nat.mul_assoc (l.getD (n+2) 0).toNat,Nat.mul_comm B (l.getD (n+1) 0).toNat];omega
structure EstInv (U V P top v1 v2 u2:Nat) (q r:Nat):Prop where
 top:q*v1+r=top
 lo:U<(q+1)*V
theorem zIZ {U V P top v1 v2 u2 ur vr:Nat}(hv1:0<v1)(hU:U=ur+P*(top*B+u2))(hV:V=vr+P*(v1*B+v2))(hur:ur<P)(hu2:u2<B):EstInv U V P top v1 v2 u2 (top/v1) (top%v1):=by
 refine⟨by rw[Nat.mul_comm];exact Nat.div_add_mod top v1,?_⟩;have h1:top+1<=(top/v1+1)*v1:=by have:=Nat.div_add_mod top v1;have:=Nat.mod_lt top hv1;rw[Nat.add_mul,Nat.mul_comm (top/v1)];omega
 have h2:(top+1)*B<=(top/v1+1)*(v1*B+v2):=by rw[Nat.mul_add,<-Nat.mul_assoc];exact Nat.le_trans (Nat.mul_le_mul_right B h1) (Nat.le_add_right _ _)
 have h3:top*B+u2+1<=(top+1)*B:=by rw[Nat.add_mul];omega
 have h4:=Nat.mul_le_mul_left P (Nat.le_trans h3 h2);have h5:(top/v1+1)*V=(top/v1+1)*vr+P*((top/v1+1)*(v1*B+v2)):=by rw[hV,Nat.mul_add,Nat.mul_left_comm]
 have h6:P*(top*B+u2+1)=P*(top*B+u2)+P:=by rw[Nat.mul_add,Nat.mul_one]
 omega
theorem zIY {U V P top v1 v2 u2 ur vr q r:Nat}(hU:U=ur+P*(top*B+u2))(hV:V=vr+P*(v1*B+v2))(hur:ur<P) (ht:q*v1+r=top) (h:r*B+u2<q*v2):U<q*V:=by
 have h1:top*B+u2+1<=q*(v1*B+v2):=by rw[<-ht,Nat.mul_add,Nat.add_mul,Nat.mul_assoc];omega
 have h2:=Nat.mul_le_mul_left P h1;have h3:q*V=q*vr+P*(q*(v1*B+v2)):=by rw[hV,Nat.mul_add,Nat.mul_left_comm]
 have h4:P*(top*B+u2+1)=P*(top*B+u2)+P:=by rw[Nat.mul_add,Nat.mul_one]
 omega
theorem zIX {U V P top v1 v2 u2 q r:Nat}(hq:0<q)(ht:q*v1+r=top)(h:U<q*V):EstInv U V P top v1 v2 u2 (q-1) (r+v1):=by obtain⟨k,rfl⟩:∃ k,q=k+1:=⟨q-1,by omega⟩;refine⟨?_,by simpa using h⟩;rw[<-ht,Nat.add_sub_cancel,Nat.add_mul];omega
theorem zAI {U V P top v1 v2 u2 ur vr q r:Nat}(hv1:0<v1)(hU:U=ur+P*(top*B+u2))(hV:V=vr+P*(v1*B+v2))(hvr:vr<P) (ht:q*v1+r=top) (hq:q<=B) (h:q*v2<=r*B+u2):q*V<=U+V:=by
 have h1:q*(v1*B+v2)<=top*B+u2:=by rw[<-ht,Nat.mul_add,Nat.add_mul,Nat.mul_assoc];omega
 have h2:=Nat.mul_le_mul_left P h1;have h3:q*V=q*vr+P*(q*(v1*B+v2)):=by rw[hV,Nat.mul_add,Nat.mul_left_comm]
 have h4:q*vr<=B*P:=Nat.mul_le_mul hq (Nat.le_of_lt hvr);have h5:B*P<=P*(v1*B+v2):=by rw[Nat.mul_comm B P];refine Nat.mul_le_mul_left P (Nat.le_trans (?_:B<=v1*B) (Nat.le_add_right _ _));exact Nat.le_mul_of_pos_left B hv1
 omega
def aY (v1 v2 u2 q r:Nat):Nat :=
 if h:B<=r\/v1=0 then q
 else if B<=q\/r*B+u2<q*v2 then (if B<=r+v1 then q-1 else aY v1 v2 u2 (q-1) (r+v1)) else q
termination_by B-r
decreasing_by simp at h;omega
structure Est (U V q:Nat):Prop where
 b:q<B
 lo:U<(q+1)*V
 hi:q*V<=U+V
theorem zDD {U V P top v1 v2 u2 ur vr:Nat}(hv1:0<v1)(hv2:v2<B)(hu2:u2<B)(hU:U=ur+P*(top*B+u2))(hV:V=vr+P*(v1*B+v2))(hur:ur<P)(hvr:vr<P)(hlt:U<B*V)(htop:top<v1*B+B):∀ n q r,B-r<=n->EstInv U V P top v1 v2 u2 q r->r<B->q<=B+1->Est U V (aY v1 v2 u2 q r)
 |0,q,r,hn,hi,hr,hq=>by omega| n+1,q,r,hn,hi,hr,hq=>by
  rw[aY];rw[dif_neg (by omega)];by_cases hc:B<=q\/r*B+u2<q*v2
  ·rw[if_pos hc];have hq0:0<q:=by rcases hc with h|h;{exact Nat.lt_of_lt_of_le xN h};{rcases Nat.eq_zero_or_pos q with e|e;{rw[e] at h;simp at h};{exact e}}
   (have hover:U<q*V:=by rcases hc with h|h;{exact Nat.lt_of_lt_of_le hlt (Nat.mul_le_mul_right V h)};{exact zIY hU hV hur hi.top h});have hst:=zIX (P:=P) (v2:=v2) (u2:=u2) hq0 hi.top hover;by_cases h2:B<=r+v1
   ·(rw[if_pos h2];have hqB:q-1<B:=by rcases Nat.lt_or_ge (q-1) B with h|h;{exact h};{have h3:=hst.top;have h4:=Nat.mul_le_mul_right v1 h;rw[Nat.mul_comm B v1] at h4;omega});refine⟨hqB,hst.lo,zAI (r:=r+v1) (v2:=v2) (u2:=u2) hv1 hU hV hvr hst.top (Nat.le_of_lt hqB) ?_⟩;have h5:(q-1)*v2<=B*B:=Nat.mul_le_mul (Nat.le_of_lt hqB) (Nat.le_of_lt hv2);have h6:B*B<=(r+v1)*B:=Nat.mul_le_mul_right B h2;omega
   {rw[if_neg h2];exact zDD hv1 hv2 hu2 hU hV hur hvr hlt htop n _ _ (by omega) hst (by omega) (by omega)}
  ·(rw[if_neg hc];have h1:q<B:=by omega);exact⟨h1,hi.lo,zAI hv1 hU hV hvr hi.top (Nat.le_of_lt h1) (by omega)⟩
def m0 (U V q:Nat):Nat:=if q*V<=U then q else q-1
theorem zI4 {U V q:Nat}(hV:0<V)(h:Est U V q):m0 U V q=U/V:=by
 unfold m0;split;{rename_i h1;exact (Nat.div_eq_of_lt_le h1 h.lo).symm}
 ·(rename_i h1;have h1:U<q*V:=by omega);have hq:q≠0:=fun e=>by rw[e] at h1;omega
  obtain⟨k,rfl⟩:∃ k,q=k+1:=⟨q-1,by omega⟩;have h2:=h.hi;rw[Nat.add_mul,Nat.one_mul] at h2;rw[Nat.add_sub_cancel];exact (Nat.div_eq_of_lt_le (by omega) h1).symm
theorem rL {l:List UInt32}(n:Nat)(h:n<=l.length):val l=val (l.take n)+B^n*val (l.drop n):=by
 have e:(l.take n).length=n:=by simp;omega
 calc val l=val (l.take n++l.drop n):=by rw[List.take_append_drop]
  _=_:=by rw[wD,e]
theorem uC {l:List UInt32}{i:Nat}(h:i<l.length):val (l.drop i)=(l.getD i 0).toNat+B*val (l.drop (i+1)):=by
 have:l.drop i=l.getD i 0::l.drop (i+1):=by rw[List.drop_eq_getElem_cons h];simp[h]
 rw[this];rfl
theorem nY {l:List UInt32}(n:Nat)(hn:n<=l.length)(h:val l<B^n):val (l.drop n)=0:=by have h1:=rL n hn;rcases Nat.eq_zero_or_pos (val (l.drop n)) with h2|h2;{exact h2};{have:=Nat.mul_le_mul_left (B^n) h2;omega}
theorem zHJ {pre x post:List UInt32}{V n q:Nat}(hx:x.length=n+1)(hpost:val post=0)(hV:val x<V*B)(hVn:V<B^n)(h0:0<V)(hq:q=val x/V):q<B/\val (pad (val x-q*V) (n+1)++post)<V /\ val (pre++(pad (val x-q*V) (n+1)++post))+V*(B^pre.length*q)=val (pre++(x++post)):=by
 have hmod:val x-q*V=val x%V:=by have:=Nat.div_add_mod (val x) V;rw[hq,Nat.mul_comm];omega
 have hlt:=Nat.mod_lt (val x) h0;refine⟨by rw[hq,Nat.div_lt_iff_lt_mul h0,Nat.mul_comm];exact hV,?_,?_⟩;{rw[wD,rI,hpost,hmod];simpa using hlt};{rw[wD,wD,wD,wD,rI,hpost,hmod];simp only[Nat.mul_zero,Nat.add_zero];have:=Nat.div_add_mod (val x) V;rw[<-hq] at this;have e:V*(B^pre.length*q)=B^pre.length*(V*q):=Nat.mul_left_comm _ _ _;rw[e,Nat.add_assoc,<-Nat.mul_add];congr 2;omega}
end Go.Proofs.YtfainocfaddbdaaGreat
