/- A part of the proof: KuE. -/
import Derived.Test.YtaeaffgjdcigoaaGreatG50
import Derived.Test.YtaeaffgjdcigoaaGreatG38
import Derived.Test.YtaeaffgjdcigoaaGreatG48
import Derived.Test.YtaeaffgjdcigoaaGreatG39
set_option linter.all false
namespace Go.Proofs.YtaeaffgjdcigoaaGreat
open Go
set_option maxRecDepth 100000
set_option maxHeartbeats 8000000
def rfd (s:Scp) (j:Nat):Option (Dec×List (Row×Rat)) :=
 if (s.best j).1=0\/(s.best j).2=0 then none
 else if 0<z3 (s.lemA ((s.best j).1-1)).v.q then some (⟨2,j,R0⟩,[(⟨9,j,0,0⟩,1),(⟨11,j,(s.best j).1,0⟩,1)])
 else if z3 (s.lemA ((s.best j).2-1)).v.q<0 then some (⟨1,j,R0⟩,[(⟨7,j,0,0⟩,1),(⟨12,j,0,(s.best j).2⟩,1)])
 else none
def rfS (s:Scp) (u:Nat):Scp×List Mult×Bool :=
 if s.q.g.us.length=0 then (s,[],false) else match rfd s (u%s.q.g.us.length) with
 |none=>(s,[],false)| some x=>(s.dplus x.1,mR x.2,true)
def Bi {k k' i a b a' b':Int}(h:k<k'):(KX [⟨⟨k,i,a,b⟩,zG 1⟩,⟨⟨k',i,a',b'⟩,zG 1⟩]).2=[(⟨k,i,a,b⟩,1),(⟨k',i,a',b'⟩,1)]:=by
 have e:(z3 (zG 1).q<0)=False:=by rw[zV];decide
 have e2:¬z3 (zG 1).q=0:=by rw[zV];decide
 have e3:vH ⟨k,i,a,b⟩ ⟨k',i,a',b'⟩=true:=by unfold vH;rw[if_neg (show ¬k=k' by omega)];exact decide_eq_true h
 unfold KX bR;simp only[Vu,List.any_nil,e,decide_false,Bool.or_false,Bool.false_eq_true,if_false,Kk,List.foldl_nil];unfold plMq;rw[if_neg e2,if_neg e2];show (if vH ⟨k,i,a,b⟩ ⟨k',i,a',b'⟩=true then (⟨k,i,a,b⟩,(zG 1).q)::plM ⟨k',i,a',b'⟩ (zG 1).q [] else _)=_;rw[if_pos e3,zV];rfl
def Eo (raw:List UInt8)(u:Nat)(hu:u<2^20)(hr:raw.length<2^38):zD 23 [u8v raw,iV u] (.tup [sv (rfS (clo raw) u).1,mlv (rfS (clo raw) u).2.1,bV ((rfS (clo raw) u).2.2)]):=by
 refine sF Tryz.f23 ?_;have ccl:=Lc raw hr;have ft:=Y9 raw;have hz:=(ft.w.sz16 (by decide) (by decide)).mono (m:=2^20) (by decide);have cb:=λj:Nat=>fN (clo raw) j hz.lems;have ho:=s32 1 (by decide) (by decide);have hS:rfS (clo raw) u=if (clo raw).q.g.us.length=0 then ((clo raw,[],false):Scp×List Mult×Bool) else match rfd (clo raw) (u%(clo raw).q.g.us.length) with
  |none=>(clo raw,[],false)| some x=>((clo raw).dplus x.1,mR x.2,true):=rfl
 have hub:=ft.w.v;have hu1:(clo raw).q.g.us.length<=1024:=(Qry.vok_of hub).ul;obtain⟨J,hJ⟩:=ex (u%(clo raw).q.g.us.length);have hJn:irem (u:Int) ((clo raw).q.g.us.length:Int)=(J:Int):=by rw[uJ,hJ]
 have hJ2:J<2^20:=by rw[<-hJ];exact xF (Nat.mod_le _ _) hu
 have cb':=cb J;have b1:=λh=>kS (s:=clo raw) (unit:=(J:Int)) (.inl rfl) h;have b2:=λh=>kS (s:=clo raw) (unit:=(J:Int)) (.inr rfl) h;have hD:rfd (clo raw) J=if ((clo raw).best J).1=0\/((clo raw).best J).2=0 then (none:Option (Dec×List (Row×Rat)))
  else if 0<z3 ((clo raw).lemA (((clo raw).best J).1-1)).v.q then some (⟨2,J,R0⟩,[(⟨9,J,0,0⟩,1),(⟨11,J,((clo raw).best J).1,0⟩,1)])
  else if z3 ((clo raw).lemA (((clo raw).best J).2-1)).v.q<0 then some (⟨1,J,R0⟩,[(⟨7,J,0,0⟩,1),(⟨12,J,0,((clo raw).best J).2⟩,1)])
  else none:=rfl
 have hlm:∀ k:Nat,k≠0->(∃ m,(clo raw).lems[k-1]?=some m/\m.u=(J:Int))->(clo raw).lems[k-1]?=some ((clo raw).lemA ((k:Int)-1)):=λk hk h=>by obtain⟨m,hm,_⟩:=h;unfold Scp.lemA;rw[show ((k:Int)-1).toNat=k-1 by omega,hm];rfl
 have m1:=λh=>hlm _ h (b1 h);have m2:=λh=>hlm _ h (b2 h);have csg:∀ k (m:Lem),(clo raw).lems[k]?=some m->zD 30 [rv m.v] (iV (z3 m.v.q)):=λk m hm=>s35 m.v (by have:=(hz.lems.sz m (zX hm)).n;omega);have bl1:((clo raw).best J).1≠0->((clo raw).best J).1<=(clo raw).lems.length:=λh=>by have:=(xP.1 (m1 h)).1;omega
 have bl2:((clo raw).best J).2≠0->((clo raw).best J).2<=(clo raw).lems.length:=λh=>by have:=(xP.1 (m2 h)).1;omega
 have hll:=ft.w.len;have hpl:=ft.w.pl;have hr1:(zG 1).sz (2^20):=(zT fits_one).mono (by decide);have cc1:=CS [⟨⟨9,(J:Int),0,0⟩,zG 1⟩,⟨⟨11,(J:Int),(((clo raw).best J).1:Int),0⟩,zG 1⟩] ⟨show 2<2^38 by decide,λm hm=>by simp at hm;rcases hm with rfl|rfl <;> exact hr1⟩ (show 2<=100 by decide);have cc2:=CS [⟨⟨7,(J:Int),0,0⟩,zG 1⟩,⟨⟨12,(J:Int),0,(((clo raw).best J).2:Int)⟩,zG 1⟩] ⟨show 2<2^38 by decide,λm hm=>by simp at hm;rcases hm with rfl|rfl <;> exact hr1⟩ (show 2<=100 by decide);rw[Bi (by decide)] at cc1 cc2;rw[show ((1:Int):Rat)=1 from rfl] at ho;rw[hJ] at hS;clear b1 b2 hlm hz ft hub cb hJ hr1;generalize rfd (clo raw) J=D at *;generalize rfS (clo raw) u=RS at *;generalize (clo raw).best J=BB at *;generalize Scp.lemA (clo raw)=lemA at *;have mRt:∀ r1 r2:Row,mR [(r1,1),(r2,1)]=[⟨r1,zG 1⟩,⟨r2,zG 1⟩]:=λ_ _=>rfl;rw[mRt] at cc1 cc2;have hU:(clo raw).q.g.us.length=(enc ac (clo raw).q.g.us).length:=(zA _ _).symm;generalize zG 1=O at *;have dpl:∀ d,(clo raw).dplus d=⟨(clo raw).q,(clo raw).path++[d],(clo raw).lems⟩:=λ_=>rfl;simp only[dpl] at hS;clear dpl;generalize clo raw=S at *;generalize mR (Zy raw)=CL at *;obtain⟨⟨⟨n,us,os⟩,⟨lo,hi',rows⟩,⟨ts,c⟩⟩,path,L⟩:=S;obtain⟨x1,x2⟩:=BB;obtain⟨RS1,RL,RB⟩:=RS;dsimp only [sv] at *;cbv;refine cA ccl ?_;cbv;refine zE (λe1=>?_) (λe1=>?_);{rw[if_pos (by rw[hU];exact om)] at hS;cases hS;cbv;exact rA};rw[if_neg (by rw[hU];exact om)] at hS;cbv;refine⟨vX (by exact om),?_⟩;rw[hU] at hJn;simp only[hJn];refine cA cb' ?_;cbv;refine zQ (λe2=>?_) (λe2=>?_);{rw[if_pos (.inl (by exact om))] at hD;subst hD;cases hS;cbv;exact rA};cbv;refine zE (λe3=>?_) (λe3=>?_);{rw[if_pos (.inr (by exact om))] at hD;subst hD;cases hS;cbv;exact rA};rw[if_neg (by exact om)] at hD;have y1:=m1 (by exact om);have y2:=m2 (by exact om);have w1:=bl1 (by exact om);have w2:=bl2 (by exact om);clear m1 m2 bl1 bl2;have s1:=csg _ _ y1;have s2:=csg _ _ y2;generalize lemA ((x1:Int)-1)=M1 at *;generalize lemA ((x2:Int)-1)=M2 at *;cbv;refine cA ho ?_;cbv;refine⟨zC (by exact om) (by exact om),y6 y1 (by exact om) y0 xD ?_⟩;cbv;refine cA s1 ?_;cbv;refine zE (λe4=>?_) (λe4=>?_)
 ·(rw[if_pos e4] at hD;subst hD;dsimp only at hS;rw[mRt] at hS;cases hS;have hT:((enc dc path++zL [dc ⟨2,(J:Int),R0⟩]).drop 0).take (path.length+1)=enc dc (path++[⟨2,(J:Int),R0⟩]):=by rw[show enc dc (path++[⟨2,(J:Int),R0⟩])=enc dc path++zL [dc ⟨2,(J:Int),R0⟩] by simp[enc,zL],xM,yW (by simp[zA,zL])]);cbv
  refine s4 rU rfl rfl rfl rfl rfl rfl (wJ qN _) (z5 oM (by grind [zA])) rfl ?_;cbv;refine wU rU rfl rfl rfl oM rfl ⟨by simp[zL,xE]⟩ (z5 oM (by simp[zL,zA] at *;exact om)) rfl ?_;cbv;refine bQ ?_;cbv;refine qF (.trans (.le (ps':=⟨[(4,.ptr 4 0),(7,.ptr 7 0),(79,mlv [⟨⟨9,(J:Int),0,0⟩,O⟩,⟨⟨11,(J:Int),(x1:Int),0⟩,O⟩])],[(4,.box [iV 0,.nil,.nil,.nil,.nil,.nil,.nil,.ff,.nil,.nil,.nil,.nil]),(7,.box [iV n,alv us,alv os,rlv lo,rlv hi',alv rows,tsv ts,bV c.neg,nat c.num,nat c.den,oV 63 5 (path.length+1),llv L]),(63,aV 5 (enc dc path++zL [dc ⟨2,(J:Int),R0⟩]))]⟩) (by cbv;repeat' first|exact trivial|exact lR|exact zS rfl|apply And.intro) (by cbv;repeat' first|exact trivial|exact lR|exact zH rfl|exact zZ rfl (by simp[zA,zL])|apply And.intro) rfl) (.frz 63 rfl rfl (by cbv;repeat' first|exact trivial|exact z8 (by simp[zA,zL])|apply And.intro) (by cbv;repeat' first|exact trivial|exact z8 (by simp[zA,zL])|apply And.intro))) rfl okA cc1 rfl ?_;cbv
  (refine rC ?_;cbv)
  exact⟨⟨lR,lR,lR,lR,lR,lR,lR,lR,lR,lR,zS hT,lR,trivial⟩,lR,yH rfl,trivial⟩
 rw[if_neg e4] at hD;clear cc1 s1 y1;cbv;refine⟨zC (by exact om) (by exact om),y6 y2 (by exact om) y0 xD ?_⟩;cbv;refine cA s2 ?_;cbv;refine zE (λe5=>?_) (λe5=>?_)
 ·(rw[if_pos e5] at hD;subst hD;dsimp only at hS;rw[mRt] at hS;cases hS;have hT:((enc dc path++zL [dc ⟨1,(J:Int),R0⟩]).drop 0).take (path.length+1)=enc dc (path++[⟨1,(J:Int),R0⟩]):=by rw[show enc dc (path++[⟨1,(J:Int),R0⟩])=enc dc path++zL [dc ⟨1,(J:Int),R0⟩] by simp[enc,zL],xM,yW (by simp[zA,zL])]);cbv
  refine s4 rU rfl rfl rfl rfl rfl rfl (wJ qN _) (z5 oM (by grind [zA])) rfl ?_;cbv;refine wU rU rfl rfl rfl oM rfl ⟨by simp[zL,xE]⟩ (z5 oM (by simp[zL,zA] at *;exact om)) rfl ?_;cbv;refine bQ ?_;cbv;refine qF (.trans (.le (ps':=⟨[(4,.ptr 4 0),(7,.ptr 7 0),(114,mlv [⟨⟨7,(J:Int),0,0⟩,O⟩,⟨⟨12,(J:Int),0,(x2:Int)⟩,O⟩])],[(4,.box [iV 0,.nil,.nil,.nil,.nil,.nil,.nil,.ff,.nil,.nil,.nil,.nil]),(7,.box [iV n,alv us,alv os,rlv lo,rlv hi',alv rows,tsv ts,bV c.neg,nat c.num,nat c.den,oV 98 5 (path.length+1),llv L]),(98,aV 5 (enc dc path++zL [dc ⟨1,(J:Int),R0⟩]))]⟩) (by cbv;repeat' first|exact trivial|exact lR|exact zS rfl|apply And.intro) (by cbv;repeat' first|exact trivial|exact lR|exact zH rfl|exact zZ rfl (by simp[zA,zL])|apply And.intro) rfl) (.frz 98 rfl rfl (by cbv;repeat' first|exact trivial|exact z8 (by simp[zA,zL])|apply And.intro) (by cbv;repeat' first|exact trivial|exact z8 (by simp[zA,zL])|apply And.intro))) rfl okA cc2 rfl ?_;cbv
  (refine rC ?_;cbv)
  exact⟨⟨lR,lR,lR,lR,lR,lR,lR,lR,lR,lR,zS hT,lR,trivial⟩,lR,yH rfl,trivial⟩
 {rw[if_neg e5] at hD;subst hD;cases hS;cbv;exact rA}
theorem Lfit.pairV {s:Scp}{l:List Mult}(h:Lfit s l)(em:Bool):∃ (R:Rsn) (E:Int),zD 20 [sv s,bV em,mlv l] (.tup [rsv R,iV E]) /\ zD 21 [sv s,bV em,mlv l] (.tup [rsv R,iV E]) /\ zD 22 [rsv R,rsv R] (bV true)/\(E=0->zD 24 [qv s.q,rsv R] (bV true)):=by obtain⟨m1,m2⟩:=h.marks;have r:=h.rok em;have e:=Gb (em:=em) m2 h.w.backs (λm hm=>⟨(h.r m hm).lo.2,(h.r m hm).hi.2⟩) (λls hls=>(h.u ls hls).1);have c:=Et s em l h.lnr;have cv:=NT s.q _ r;rw[e] at c;exact⟨_,_,Mg s em l h.lrn,c,Ej _ (by have:=r.cl;omega) r.lz.len (λm hm=>⟨(r.lz.sz m hm).mono (by decide),(r.lz.pf m hm).mono (by decide)⟩) (r.pz.mono (by decide)),λh0=>by rwa [Zi h.w h.r h0] at cv⟩
def RK {raw:List UInt8}{J:Nat}(hJ:J<1024){x:Dec×List (Row×Rat)}(h:rfd (clo raw) J=some x):Lfit ((clo raw).dplus x.1) (mR x.2):=by
 have ft:=Y9 raw;have cv:=(Q9 raw).1;have h1:(zG 1).sz (2^16):=(zT fits_one).mono (by decide);have bl:∀ k,(k=((clo raw).best J).1\/k=((clo raw).best J).2)->k≠0->k<=(clo raw).lems.length:=λk hk h0=>by obtain⟨m,hm,_⟩:=kS hk h0;have:=(xP.1 hm).1;omega
 unfold rfd at h;split at h;{cases h}
 ·rename_i hn;have l1:=bl _ (.inl rfl) (λe=>hn (.inl e));have l2:=bl _ (.inr rfl) (λe=>hn (.inr e));have key:∀ (d:Dec) (r1 r2:Row),uk d->d.x=R0->(r1.i=J/\r2.i=J)->(r1.k≠4/\r2.k≠4)->(0<=r1.lo/\r1.lo<=(clo raw).lems.length/\0<=r1.hi/\r1.hi<=(clo raw).lems.length)->(0<=r2.lo/\r2.lo<=(clo raw).lems.length/\0<=r2.hi/\r2.hi<=(clo raw).lems.length)->Lfit ((clo raw).dplus d) (mR [(r1,1),(r2,1)]):=λd r1 r2 hd hx hi hk q1 q2=>by
   refine Ao ft (AR raw) cv.pl hd (by rw[hx];exact⟨yU _,yU _⟩) (λm hm=>?_) (show 2<=20 by decide) ⟨show 2<2^38 by decide,λm hm=>?_⟩
   ·(have hm:m=⟨r1,zG 1⟩\/m=⟨r2,zG 1⟩:=by simpa[mR] using hm);rcases hm with rfl|rfl
    {exact⟨⟨by (try dsimp only);omega,λe=>absurd e hk.1,⟨q1.1,q1.2.1⟩,⟨q1.2.2.1,q1.2.2.2⟩⟩,hk.1⟩};{exact⟨⟨by (try dsimp only);omega,λe=>absurd e hk.2,⟨q2.1,q2.2.1⟩,⟨q2.2.2.1,q2.2.2.2⟩⟩,hk.2⟩}
   ·(have hm:m=⟨r1,zG 1⟩\/m=⟨r2,zG 1⟩:=by simpa[mR] using hm);rcases hm with rfl|rfl <;> exact h1
  split at h;{cases h;exact key _ _ _ (.inr rfl) rfl ⟨rfl,rfl⟩ ⟨by (try dsimp only);decide,by (try dsimp only);decide⟩ ⟨by (try dsimp only);omega,by (try dsimp only);omega,by (try dsimp only);omega,by (try dsimp only);omega⟩ ⟨by (try dsimp only);omega,by (try dsimp only);omega,by (try dsimp only);omega,by (try dsimp only);omega⟩};{split at h;{cases h;exact key _ _ _ (.inl rfl) rfl ⟨rfl,rfl⟩ ⟨by (try dsimp only);decide,by (try dsimp only);decide⟩ ⟨by (try dsimp only);omega,by (try dsimp only);omega,by (try dsimp only);omega,by (try dsimp only);omega⟩ ⟨by (try dsimp only);omega,by (try dsimp only);omega,by (try dsimp only);omega,by (try dsimp only);omega⟩};{cases h}}
def Mi (raw:List UInt8)(w:UInt8)(h1:raw.length<=9223372036854775807):zD 5 [u8v raw,.int .u8 (λ_=>(w.toNat:Int))] (bV true):=by
 refine sF Tryz.f5 ?_;have ca:=PW;have hw:w.toNat<256:=w.toNat_lt;have crf:raw.length<2^38->zD 23 [u8v raw,iV w.toNat] (.tup [sv (rfS (clo raw) w.toNat).1,mlv (rfS (clo raw) w.toNat).2.1,bV ((rfS (clo raw) w.toNat).2.2)]):=λh=>Eo raw w.toNat oM h;have hp:(rfS (clo raw) w.toNat).2.2=true->∃ (R:Rsn) (E:Int),zD 20 [sv (rfS (clo raw) w.toNat).1,bV true,mlv (rfS (clo raw) w.toNat).2.1] (.tup [rsv R,iV E]) /\
   zD 21 [sv (rfS (clo raw) w.toNat).1,bV true,mlv (rfS (clo raw) w.toNat).2.1] (.tup [rsv R,iV E]) /\
   zD 22 [rsv R,rsv R] (bV true)/\(E=0->zD 24 [qv (rfS (clo raw) w.toNat).1.q,rsv R] (bV true)):=λh=>by
  have hub:=(Qry.vok_of (Y9 raw).w.v).ul;unfold rfS at h ⊢;split at h;{cases h}
  ·rename_i h0;rw[if_neg h0];have hJ:w.toNat%(clo raw).q.g.us.length<1024:=uR (vZ _ oM) hub;generalize w.toNat%(clo raw).q.g.us.length=J at *;cases hx:rfd (clo raw) J with
   |none=>rw[hx] at h;cases h
   |some x=>exact (RK hJ hx).pairV true
 generalize rfS (clo raw) w.toNat=RS at *;obtain⟨⟨⟨⟨n,us,os⟩,⟨lo,hi',rows⟩,⟨ts,c⟩⟩,path,L⟩,RL,RB⟩:=RS;dsimp only [sv] at *;cbv;refine cA ca ?_;cbv;refine dY rfl ?_;cbv;refine zE (λe1=>?_) (λe1=>?_);{cbv;exact rA};have crf':=crf (by rw[zA] at e1;exact om);clear crf;cbv;refine yP rfl (by exact⟨lR,zB (show nx .i64 (w.toNat:Int)=_ from ZV oM oM),trivial⟩) crf' rfl ?_;cbv;refine zP (λe2=>?_) (λe2=>?_)
 rotate_left
 {cbv;exact rA};obtain⟨R,E,k1,k2,k3,k4⟩:=hp e2;clear hp ca crf';cbv;refine cA k1 ?_;cbv;refine cA k2 ?_;cbv;refine vN rfl ?_;cbv;refine cA k3 ?_;cbv;refine rR rfl ?_;cbv;refine zQ (λe3=>?_) (λe3=>?_);{have k5:=k4 e3;cbv;refine cA k5 ?_;cbv;exact rA};{cbv;exact rA}
end Go.Proofs.YtaeaffgjdcigoaaGreat
