/- A part of the proof: SxZ, LsI. -/
import Derived.Test.YtfainocfaddbdaaGreatZ41
import Derived.Test.YtfainocfaddbdaaGreatZ27
import Derived.Test.YtfainocfaddbdaaGreatZ25
set_option linter.all false
namespace Go.Proofs.YtfainocfaddbdaaGreat
open Go
set_option maxRecDepth 100000
set_option maxHeartbeats 4000000
def bxU (t:Nat):F:=(F.num (((t+1:Nat):Int):Rat)).sub (F.var (t:Int))
def bxR:Nat->List F
 |0=>[]| t+1=>bxR t++[F.var (t:Int),bxU t]
def bxO (c:Nat->Int):Nat->F
 |0=>F.zero| t+1=>(bxO c t).add ((F.var (t:Int)).scale (c t:Rat))
def bxW (c:Nat->Int):Nat->Int
 |0=>0| t+1=>bxW c t+min 0 (c t*((t+1:Nat):Int))
theorem jW:∀ n,(bxR n).length=2*n
 |0=>rfl| n+1=>by rw[bxR,List.length_append,jW n];rfl
theorem lL:∀ {n t:Nat},t<n->(bxR n)[2*t]?=some (F.var (t:Int))/\(bxR n)[2*t+1]?=some (bxU t)
 |n+1,t,h=>by rw[bxR];by_cases e:t=n;{subst e;rw[List.getElem?_append_right (by rw[jW];omega),List.getElem?_append_right (by rw[jW];omega),jW];rw[show 2*t-2*t=0 by omega,show 2*t+1-2*t=1 by omega];exact⟨rfl,rfl⟩};{rw[List.getElem?_append_left (by rw[jW];omega),List.getElem?_append_left (by rw[jW];omega)];exact lL (by omega)}
theorem lK:∀ {n:Nat} {f:F},f∈bxR n->∃ t,t<n/\(f=F.var (t:Int)\/f=bxU t)
 |n+1,f,h=>by rw[bxR] at h;rcases List.mem_append.1 h with h|h;{obtain⟨t,h1,h2⟩:=lK h;exact⟨t,by omega,h2⟩};{simp at h;exact⟨n,by omega,h⟩}
theorem zCW (t:Nat)(X:Int->Rat):(bxU t).at X=(((t+1:Nat):Int):Rat)-X (t:Int):=by unfold bxU;rw[zLQ,zQC,oP]
theorem zLM {t n:Nat}(h:t<n):(bxU t).wf (n:Int):=(F.wf.num _ _).sub (F.wf.var (by omega) (by omega))
theorem zF8 {n:Nat}{f:F}(h:f∈bxR n):f.wf (n:Int):=by obtain⟨t,h1,h2|h2⟩:=lK h;{rw[h2];exact F.wf.var (by omega) (by omega)};{rw[h2];exact zLM h1}
theorem zP7 {t:Nat}(ht:t<12):(bxU t).fl 2 1:=by
 have h1:(bxU t).fl (1+1+2) (0+1):=(zK7 (eL (z:=((t+1:Nat):Int)) (by omega))).sub (tZ (t:Int));refine⟨fun u hu=>?_,?_,h1.len⟩;{have hw:(bxU t).wf ((t+1:Nat):Int):=zLM (Nat.lt_succ_self t);rw[<-Cn.co_mem hw.cn hu];unfold bxU;rw[zP1,zP2,zLH];unfold dlt;split;{rw[show (0:Rat)-1=-1 by grind];exact fits_neg1.mono (by decide)};{rw[show (0:Rat)-0=0 by grind];exact y5 (by decide)}}
 ·(have h2:=zCW t fun _=>0;unfold F.at at h2;rw[aK] at h2;have:(bxU t).c=(((t+1:Nat):Int):Rat):=by grind);rw[this]
  exact (eL (z:=((t+1:Nat):Int)) (by omega)).mono (by decide)
theorem zP8 {n:Nat}(hn:n<=12){f:F}(h:f∈bxR n):f.fl 2 1:=by obtain⟨t,h1,h2|h2⟩:=lK h;{rw[h2];exact (tZ _).mono (by decide) (Nat.le_refl _)};{rw[h2];exact zP7 (by omega)}
theorem oI (c:Nat->Int)(X:Int->Rat):∀ n,(bxO c n).at X=bN c (fun t=>X (t:Int)) n
 |0=>lM X| n+1=>by rw[bxO,zLR,zEM,oP,oI c X n];show _=bN c _ n+(c n:Rat)*X (n:Int);grind
theorem mX (c:Nat->Int)(N:Nat):∀ {n:Nat},n<=N->(bxO c n).wf (N:Int)
 |0,_=>F.wf.zero| n+1,h=>(mX c N (n:=n) (by omega)).add (F.wf.scale (F.wf.var (by omega) (by omega)))
theorem zLO (c:Nat->Int):∀ {n:Nat} (v:Int),co (bxO c n).ts v=if 0<=v/\v<(n:Int) then (c v.toNat:Rat) else 0
 |0,v=>by rw[if_neg (by omega)];rfl
 |n+1,v=>by rw[bxO,zP3,zKG,zLH,zLO c (n:=n) v];unfold dlt;by_cases h:(n:Int)=v;{rw[if_pos h,if_neg (by omega),if_pos (by omega),<-h,Int.toNat_natCast];grind};{rw[if_neg h];by_cases h2:0<=v/\v<(n:Int);{rw[if_pos h2,if_pos (by omega)];grind};{rw[if_neg h2,if_neg (by omega)];grind}}
theorem zHN (c:Nat->Int)(hc:∀ t,(c t).natAbs<=2):∀ n,(bxO c n).ts.length<=n
 |0=>Nat.le_refl 0| n+1=>by have h1:((F.var (n:Int)).scale (c n:Rat)).fl (1+1+2) 1:=(tZ _).scale (eL (by have:=hc n;omega));exact Nat.le_trans (gH _ _ _) (Nat.add_le_add (zHN c hc n) h1.len)
theorem zLN {c:Nat->Int}(hc:∀ t,(c t).natAbs<=2)(n:Nat):(bxO c n).fl 2 n:=by
 refine⟨fun t h=>?_,?_,zHN c hc n⟩;{rw[<-Cn.co_mem (mX c n (Nat.le_refl n)).cn h,zLO];split;{exact (eL (by have:=hc t.1.toNat;omega)).mono (by decide)};{exact y5 (by decide)}}
 ·have h2:=oI c (fun _=>0) n;unfold F.at at h2;rw[aK] at h2;have h3:=lV (c:=c) (n:=n) (X:=fun _=>(0:Rat)) (Y:=fun _=>(0:Rat)) (t0:=n) (fun _ _ _=>rfl);have h4:bN c (fun _=>(0:Rat)) n=0:=by
   clear h2 h3;induction n with
   |zero=>rfl| succ n ih=>show bN c _ n+(c n:Rat)*0=0;rw[ih];grind
  (have:(bxO c n).c=0:=by rw[h4] at h2;grind);rw[this]
  exact y5 (by decide)
theorem zC3 (c:Nat->Int){X:Nat->Rat}:∀ n,(∀ t,t<n->0<=X t/\X t<=(((t+1:Nat):Int):Rat))->((bxW c n:Int):Rat)<=bN c X n
 |0,_=>Rat.le_refl| n+1,h=>by
  have h1:=zC3 c (X:=X) n fun t ht=>h t (by omega);obtain⟨h2,h3⟩:=h n (by omega);show ((bxW c n+min 0 (c n*((n+1:Nat):Int)):Int):Rat)<=bN c X n+(c n:Rat)*X n;rw[Rat.intCast_add]
  suffices hs:((min 0 (c n*((n+1:Nat):Int)):Int):Rat)<=(c n:Rat)*X n by grind
  by_cases hc:c n<0
  ·(have h4:min 0 (c n*((n+1:Nat):Int))<=c n*((n+1:Nat):Int):=Int.min_le_right _ _;refine Rat.le_trans (Rat.intCast_le_intCast.2 h4) ?_;rw[Rat.intCast_mul];have h5:(0:Rat)<=-(c n:Rat):=by have:((c n:Int):Rat)<((0:Int):Rat):=Rat.intCast_lt_intCast.2 hc;grind);have h6:=Rat.mul_le_mul_of_nonneg_left h3 h5;grind
  {have h4:min 0 (c n*((n+1:Nat):Int))<=0:=Int.min_le_left _ _;refine Rat.le_trans (Rat.intCast_le_intCast.2 h4) ?_;exact Rat.mul_nonneg (Rat.intCast_nonneg.2 (by omega)) h2}
theorem zC5 (c:Nat->Int):∀ n,bN c (fun t=>if c t<0 then (((t+1:Nat):Int):Rat) else 0) n=((bxW c n:Int):Rat)
 |0=>rfl| n+1=>by
  show bN c _ n+(c n:Rat)*(if c n<0 then (((n+1:Nat):Int):Rat) else 0)=((bxW c n+min 0 (c n*((n+1:Nat):Int)):Int):Rat);rw[zC5 c n,Rat.intCast_add];by_cases hc:c n<0
  ·(have h1:c n*((n+1:Nat):Int)<=0:=by have:=Int.mul_le_mul_of_nonneg_right (show c n<=0 by omega) (show (0:Int)<=((n+1:Nat):Int) by omega);omega);rw[if_pos hc,show min 0 (c n*((n+1:Nat):Int))=c n*((n+1:Nat):Int) by omega,Rat.intCast_mul]
  {have h1:0<=c n*((n+1:Nat):Int):=Int.mul_nonneg (by omega) (by omega);rw[if_neg hc,show min 0 (c n*((n+1:Nat):Int))=0 by omega,Rat.mul_zero];rfl}
theorem zLL {n:Nat}{X:Int->Rat}:Pts (bxR n) X↔∀ t:Nat,t<n->0<=X (t:Int)/\X (t:Int)<=(((t+1:Nat):Int):Rat):=by constructor;{intro h t ht;obtain⟨g1,g2⟩:=lL ht;have a:=h _ (List.mem_of_getElem? g1);have b:=h _ (List.mem_of_getElem? g2);rw[oP] at a;rw[zCW] at b;exact⟨a,by grind⟩};{intro h f hf;obtain⟨t,h1,h2|h2⟩:=lK hf;{rw[h2,oP];exact (h t h1).1};{rw[h2,zCW];have:=(h t h1).2;grind}}
theorem zP6 (c:Nat->Int)(n:Nat):Sem (bxR n) (bxO c n) 1 ((bxW c n:Int):Rat):=by refine⟨fun _=>⟨⟨fun i=>if c i.toNat<0 then (((i.toNat+1:Nat):Int):Rat) else 0,zLL.2 fun t ht=>?_,?_⟩,fun X hX=>?_⟩,fun h=>absurd h (by decide),fun h=>absurd h (by decide),.inl rfl⟩;{have hp:(0:Rat)<=(((t+1:Nat):Int):Rat):=Rat.intCast_nonneg.2 (Int.natCast_nonneg _);show 0<=(if c t<0 then (((t+1:Nat):Int):Rat) else 0)/\(if c t<0 then (((t+1:Nat):Int):Rat) else 0)<=_;split;{exact⟨hp,Rat.le_refl⟩};{exact⟨Rat.le_refl,hp⟩}};{rw[oI];exact zC5 c n};{rw[oI];exact zC3 c n (zLL.1 hX)}
theorem zO8 {c:Nat->Int}{n:Nat}(hc:∀ t,(c t).natAbs<=2)(hn:n<=12):∃ s,Slv n (bxR n) (bxO c n) 1 s/\s.st=1/\s.val=((bxW c n:Int):Rat):=by obtain⟨s,hs⟩:=zMP (v:=n) (fs:=bxR n) (ob:=bxO c n) hc hn (jW n) (fun t ht=>⟨_,(lL ht).1,fun X=>oP X _⟩) (fun t ht=>⟨_,(lL ht).2,zCW t⟩) (fun f hf=>zF8 hf) (mX c n (Nat.le_refl n)) (oI c · n);have h1:=hs.ok.sem (fun f hf=>zF8 hf) (mX c n (Nat.le_refl n));obtain⟨h2,h3⟩:=(zP6 c n).unique h1 (k:=1) (fun X=>Iff.rfl) (by decide) (fun X=>by grind);exact⟨s,hs,h2.symm,by rw[h3,Rat.one_mul]⟩
def rgC (ms:List UInt8) (t:Nat):Int:=(((ms.getD t 0).toNat%5:Nat):Int)-2
theorem zK3 (ms:List UInt8)(t:Nat):(rgC ms t).natAbs<=2:=by have:=Nat.mod_lt (ms.getD t 0).toNat (show 0<5 by decide);unfold rgC;omega
theorem zF7 {c:Nat->Int}(hc:∀ t,(c t).natAbs<=2):∀ {n:Nat},n<=12->(bxW c n).natAbs<=24*n
 |0,_=>Nat.le_refl 0| n+1,h=>by
  (have h1:=zF7 hc (n:=n) (by omega);have h2:(c n*((n+1:Nat):Int)).natAbs<=2*12:=by rw[Int.natAbs_mul];exact Nat.mul_le_mul (hc n) (by omega));show (bxW c n+min 0 (c n*((n+1:Nat):Int))).natAbs<=_;omega
theorem zKI {c:Nat->Int}{n:Nat}(hc:∀ t,(c t).natAbs<=2)(hn:n<=12):∃ s,s.st=1/\s.val=((bxW c n:Int):Rat)/\zH 20 [pgv (prg n (bxR n) (bxO c n))] (.tup [slv s,.int .i64 (fun _=>0)])/\zH 23 [pgv (prg n (bxR n) (bxO c n)),slv s] (.bool (fun _=>true)):=by
 obtain⟨s,hs,h1,h2⟩:=zO8 hc hn;have hR:∀ f,f∈bxR n->f.fl 2 12/\f.wf (n:Int):=fun f hf=>⟨(zP8 hn hf).mono (Nat.le_refl _) (by decide),zF8 hf⟩;have hO:(bxO c n).fl 2 12/\(bxO c n).wf (n:Int):=⟨(zLN hc n).mono (Nat.le_refl _) hn,mX c n (Nat.le_refl n)⟩;have hl:=jW n;have hv:(prg n (bxR n) (bxO c n)).valid=true:=by unfold Prg.valid;show (decide (0<=(n:Int)/\(n:Int)<=1280/\((bxR n).map fA).length<=4096)&&(fA (bxO c n)).valid (n:Int)&&((bxR n).map fA).all (A.valid (n:Int)))=true;rw[decide_eq_true (by rw[List.length_map];omega),hO.2.valid,zLU fun f hf=>(hR f hf).2];rfl
 have hz:(prg n (bxR n) (bxO c n)).sz 2:=⟨⟨by show ((bxR n).map fA).length<_;rw[List.length_map];omega,fun a ha=>by obtain⟨f,hf,rfl⟩:=List.mem_map.1 ha;exact ((hR f hf).1.fit (by decide)).fA⟩,(hO.1.fit (by decide)).fA⟩;refine⟨s,h1,h2,zDC n 0 (bxR n) (bxO c n) s (hz.mono (by decide)) hv (by omega) (by omega) (fun f hf=>⟨by have:=(hR f hf).1.len;omega,(hR f hf).2.v⟩) (by have:=hO.1.len;omega) hO.2.v (fun E hE=>(hs.piv E hE).mono (by decide)) (hs.walk.mono (by decide)) hs.some,?_⟩;exact zPC (m:=1) ⟨by omega,hz.mono (by decide),hv,hR,hO,by omega⟩ hs.ok (by decide) (by rw[hl];omega) hs.fit
theorem zPF (ms:List UInt8)(hms:ms.length<=2^20):zH 11 [u8l ms] (.bool (fun _=>true)):=by
 obtain⟨tru,htru⟩:∃ b,b=true:=⟨_,rfl⟩;have ca:=zPG htru;have cs:=fun h:ms.length<=12=>zKI (c:=rgC ms) (n:=ms.length) (zK3 ms) h;have c1:zH 26 [.int .i64 (fun _=>1)] (rv (zL 1)):=s32 1 (by decide) (by decide);have hX:∀ i:Nat,fA (F.var (i:Int))=⟨[((i:Int),zL 1)],⟨false,[],[]⟩⟩:=fun i=>by show (⟨tR [((i:Int),1)],zL 0⟩:A)=_;rw[show zL 0=⟨false,[],[]⟩ from congrArg A.c eN];rfl
 obtain⟨C,hC⟩:∃ C,rgC ms=C:=⟨_,rfl⟩;have hCe:∀ (i:Nat) b,ms[i]?=some b->nx .i64 (irem (b.toNat:Int) 5)=C i+2/\-2<=C i/\C i<=2:=fun i b hb=>by
  (have:=Nat.mod_lt b.toNat (show 0<5 by decide);have e:C i=((b.toNat%5:Nat):Int)-2:=by rw[<-hC];unfold rgC;rw[getD_some hb]);rw[show irem (b.toNat:Int) 5=((b.toNat%5:Nat):Int) from qE (b:=5),mK (by omega) (by omega),e]
  omega
 have hCl:∀ t,(C t).natAbs<=2:=fun t=>by rw[<-hC];exact zK3 ms t
 rw[hC] at cs;have st:∀ i:Nat,i<12->zH 26 [.int .i64 (fun _=>C i)] (rv (zL ((C i:Int):Rat))) /\
   zH 27 [av ⟨[((i:Int),zL 1)],⟨false,[],[]⟩⟩,rv (zL ((C i:Int):Rat))] (av (fA ((F.var (i:Int)).scale ((C i:Int):Rat)))) /\
   zH 29 [av (fA (bxO C i)),av (fA ((F.var (i:Int)).scale ((C i:Int):Rat)))] (av (fA (bxO C (i+1)))) /\
   zH 26 [.int .i64 (fun _=>(i:Int)+1)] (rv (zL (((i+1:Nat):Int):Rat))) /\
   zH 33 [av ⟨[],zL (((i+1:Nat):Int):Rat)⟩,av ⟨[((i:Int),zL 1)],⟨false,[],[]⟩⟩] (av (fA (bxU i))) /\
   (bxR (i+1)).map fA=(bxR i).map fA++[⟨[((i:Int),zL 1)],⟨false,[],[]⟩⟩,fA (bxU i)] /\
   bxW C (i+1)=bxW C i+imin 0 (C i*((i:Int)+1))/\-24<=C i*((i:Int)+1)/\C i*((i:Int)+1)<=24/\-288<=bxW C i/\bxW C i<=288/\-312<=bxW C i+imin 0 (C i*((i:Int)+1))/\bxW C i+imin 0 (C i*((i:Int)+1))<=312:=fun i hi=>by
  (have h1:=hCl i;have hw:(F.var (i:Int)).wf ((i+1:Nat):Int):=F.wf.var (by omega) (by omega);have hcf:Fits 1 ((C i:Int):Rat):=eL (by omega);have hsc:=(tZ (i:Int)).scale hcf;have q1:zH 27 [av (fA (F.var (i:Int))),rv (zL ((C i:Int):Rat))] (av (fA ((F.var (i:Int)).scale ((C i:Int):Rat)))):=zGR (tZ (i:Int)) hcf (by decide) (by decide) (by decide);have q2:=zN7 (mX C i (Nat.le_refl i)).cn hw.scale.cn (zLN hCl i) hsc (by decide) (by decide) (by omega) (by decide);have q3:zH 33 [av (fA (F.num (((i+1:Nat):Int):Rat))),av (fA (F.var (i:Int)))] (av (fA ((F.num (((i+1:Nat):Int):Rat)).sub (F.var (i:Int))))):=zN6 (F.wf.num (((i+1:Nat):Int):Rat) ((i+1:Nat):Int)).cn hw.cn (zK7 (eL (z:=((i+1:Nat):Int)) (by omega))) (tZ (i:Int)) (by decide) (by decide) (by decide) (by decide);rw[hX] at q1;have e:((i:Int)+1)=((i+1:Nat):Int):=by omega);have h2:(C i*((i+1:Nat):Int)).natAbs<=2*12:=by rw[Int.natAbs_mul];exact Nat.mul_le_mul h1 (by omega)
  (have h3:=zF7 hCl (n:=i) (by omega);have h4:imin 0 (C i*((i+1:Nat):Int))=min 0 (C i*((i+1:Nat):Int)):=by unfold imin;split <;> omega);rw[e]
  refine⟨s32 _ (by omega) (by omega),q1,q2,s32 _ (by omega) (by omega),?_,?_,by rw[h4];rfl,by omega,by omega,by omega,by omega,by rw[h4];omega,by rw[h4];omega⟩;{rw[<-hX];exact q3};{rw[bxR,List.map_append,<-hX];rfl}
 have hlen:=fun i=>jW i;obtain⟨GO,GR,GW,CR,GN,GS,GU,g0,r0,w0,rl,fin,st'⟩:∃ (GO:Nat->A) (GR:Nat->List A) (GW:Nat->Int) (CR GN:Nat->R) (GS GU:Nat->A),GO 0=⟨[],⟨false,[],[]⟩⟩/\GR 0=[]/\GW 0=0/\(∀ i,(GR i).length=2*i) /\
   (ms.length<=12->∃ s,s.st=1/\(zH 26 [.int .i64 (fun _=>GW ms.length)] (rv (zL s.val))/\zH 30 [rv (zL s.val),rv (zL s.val)] (.int .i64 (fun _=>0)))/\zH 20 [pgv ⟨(ms.length:Int),GR ms.length,GO ms.length⟩] (.tup [slv s,.int .i64 (fun _=>0)])/\zH 23 [pgv ⟨(ms.length:Int),GR ms.length,GO ms.length⟩,slv s] (.bool (fun _=>true))/\-288<=GW ms.length/\GW ms.length<=288) /\
   ∀ i:Nat,i<12->zH 26 [.int .i64 (fun _=>C i)] (rv (CR i)) /\
   zH 27 [av ⟨[((i:Int),zL 1)],⟨false,[],[]⟩⟩,rv (CR i)] (av (GS i)) /\
   zH 29 [av (GO i),av (GS i)] (av (GO (i+1))) /\
   zH 26 [.int .i64 (fun _=>(i:Int)+1)] (rv (GN i)) /\
   zH 33 [av ⟨[],GN i⟩,av ⟨[((i:Int),zL 1)],⟨false,[],[]⟩⟩] (av (GU i)) /\
   GR (i+1)=GR i++[⟨[((i:Int),zL 1)],⟨false,[],[]⟩⟩,GU i] /\
   GW (i+1)=GW i+imin 0 (C i*((i:Int)+1))/\-24<=C i*((i:Int)+1)/\C i*((i:Int)+1)<=24/\-288<=GW i/\GW i<=288/\-312<=GW i+imin 0 (C i*((i:Int)+1))/\GW i+imin 0 (C i*((i:Int)+1))<=312 :=
  ⟨fun i=>fA (bxO C i),fun i=>(bxR i).map fA,bxW C,fun i=>zL ((C i:Int):Rat),fun i=>zL (((i+1:Nat):Int):Rat),fun i=>fA ((F.var (i:Int)).scale ((C i:Int):Rat)),fun i=>fA (bxU i),eN,rfl,rfl,fun i=>by rw[List.length_map,jW],fun h=>by obtain⟨s,h1,h2,h3,h4⟩:=cs h;have h5:=zF7 hCl h;exact⟨s,h1,⟨by rw[h2];exact s32 _ (by omega) (by omega),oE _ (by rw[h2];exact (eL (by omega)).mono (by decide))⟩,h3,h4,by omega,by omega⟩,st⟩
 obtain⟨ONE,hONE⟩:∃ x,zL 1=x:=⟨_,rfl⟩;rw[hONE] at c1 st';clear cs st hX hCl hlen hC hONE;refine sF Tryz.f11 ?_;cbv;refine cA ca ?_;cbv;refine yZ (fun e=>?_) (fun e=>by rw[htru] at e;cases e);cbv;refine zF (fun e3=>?_) (fun e3=>?_)
 ·cbv
  (refine rC ?_;cbv)
  exact zV rfl
 have hm:ms.length<=12:=okQ;obtain⟨s,hs1,⟨cw,cm⟩,cso,cpr,hw1,hw2⟩:=fin hm;obtain⟨n,hn⟩:∃ n,ms.length=n:=⟨_,rfl⟩;rw[hn] at cw cso cpr hw1 hw2 hm;clear fin;cbv;refine z9 (σ:=Nat) (fun i=>⟨[(0,u8l ms),(3,.int .i64 (fun _=>(n:Int))),(4,.ptr 4 0),(5,.int .i64 (fun _=>GW i)),(6,.int .i64 (fun _=>(i:Int)))],[(4,.box [.int .i64 (fun _=>(n:Int)),.osl 54 4 (fun _=>0) (fun _=>2*i),tsv (GO i).ts,.bool (fun _=>(GO i).c.neg),nat (GO i).c.num,nat (GO i).c.den]),(54,.arr 4 (fun _=>enc ac (GR i)))]⟩)
  (fun i=>i<=n) (fun i=>n-i) 0 (Nat.zero_le _)
  (.trans (.le (ps':=⟨[(0,u8l ms),(3,.int .i64 (fun _=>(n:Int))),(4,.ptr 4 0),(5,.int .i64 (fun _=>GW 0)),(6,.int .i64 (fun _=>((0:Nat):Int)))],[(4,.box [.int .i64 (fun _=>(n:Int)),.nil,.nil,.ff,.nil,.nil])]⟩) (by cbv;repeat' first|exact trivial|exact lR|exact zC w0.symm|exact zC (by (try dsimp only [zJ] at *);rw[zN,hn])|apply And.intro) (by cbv;repeat' first|exact trivial|exact lR|exact zC (by (try dsimp only [zJ] at *);rw[zN,hn])|apply And.intro) rfl)
   (.trans (.adoptB (ps:=⟨[(0,u8l ms),(3,.int .i64 (fun _=>(n:Int))),(4,.ptr 4 0),(5,.int .i64 (fun _=>GW 0)),(6,.int .i64 (fun _=>((0:Nat):Int)))],[(4,.box [.int .i64 (fun _=>(n:Int)),.nil,.nil,.ff,.nil,.nil])]⟩) (cs:=[.int .i64 (fun _=>(n:Int)),.nil,.nil,.ff,.nil,.nil]) 54 4 4 1 rfl rfl rfl)
   (.le okZ (by cbv;rw[g0,r0];repeat' first|exact trivial|exact lR|exact zO rfl|exact zQ rfl|exact zB rfl|apply And.intro) rfl))) ?_
 intro i hi;cbv;refine zF (fun h=>?_) (fun h=>?_)
 ·(have hin:i<n:=om;have hi12:i<12:=by omega);obtain⟨b,hb⟩:=zT (show i<ms.length by omega)
  (obtain⟨k1,k2,k3,k4,k5,hR,hW,p1,p2,p3,p4,p5,p6⟩:=st' i hi12;obtain⟨hq,hq1,hq2⟩:=hCe i b hb;have hrl:=rl i;obtain⟨Ci,hCi⟩:∃ z,C i=z:=⟨_,rfl⟩;rw[hCi] at k1 hq hq1 hq2 hW p1 p2 p5 p6;obtain⟨O,hO⟩:∃ x,GO i=x:=⟨_,rfl⟩;obtain⟨O2,hO2⟩:∃ x,GO (i+1)=x:=⟨_,rfl⟩;obtain⟨S,hS⟩:∃ x,GS i=x:=⟨_,rfl⟩;obtain⟨U,hU⟩:∃ x,GU i=x:=⟨_,rfl⟩;obtain⟨N,hN⟩:∃ x,GN i=x:=⟨_,rfl⟩;obtain⟨K,hK⟩:∃ x,CR i=x:=⟨_,rfl⟩;obtain⟨L,hL⟩:∃ x,GR i=x:=⟨_,rfl⟩;obtain⟨L2,hL2⟩:∃ x,GR (i+1)=x:=⟨_,rfl⟩;obtain⟨W,hWi⟩:∃ x,GW i=x:=⟨_,rfl⟩;obtain⟨W2,hW2i⟩:∃ x,GW (i+1)=x:=⟨_,rfl⟩;rw[hO,hS,hO2] at k3;rw[hS] at k2;rw[hK] at k1 k2;rw[hN] at k4 k5;rw[hU] at k5 hR;rw[hL,hL2] at hR;rw[hL] at hrl;rw[hWi] at hW p3 p4 p5 p6;rw[hW2i] at hW;clear st' hCe rl cso cpr cw cm;cbv;rw[hO,hL,hWi];clear hO hS hU hN hK hL hWi;obtain⟨ots,oc⟩:=O;obtain⟨sts,sc⟩:=S;obtain⟨uts,uc⟩:=U;obtain⟨nts,nc⟩:=O2;cbv;refine uM hb (fun _=>rfl) (fun _=>rfl) ?_;cbv;refine⟨vS (by decide),zD (by (try dsimp only [zJ] at *);rw[hq];omega) (by (try dsimp only [zJ] at *);rw[hq];omega),?_⟩;cbv;refine cA c1 ?_;cbv;refine zZ 8 (by cbv) ?_;cbv;refine uX (by exact⟨zC (by (try dsimp only [zJ] at *);rw[hq];omega),trivial⟩) k1 rfl ?_;cbv;refine uX (by exact⟨⟨zX rfl,zQ rfl,zO rfl,zO rfl,trivial⟩,okA,trivial⟩) k2 rfl ?_;cbv;refine dA k3 ?_;cbv;refine lD 11 [(10,54)] (by cbv) (by cbv) ?_;cbv;refine⟨zD om om,uX okA k4 rfl ?_⟩;cbv;refine uX (by exact⟨okA,⟨zX rfl,zQ rfl,zO rfl,zO rfl,trivial⟩,trivial⟩) k5 rfl ?_;cbv;refine zBY zKS rfl ⟨by simp[y8,x4]⟩ rfl (by rw[zN,hrl]) (yR (by simp[y8] <;> omega) (by simp[y8,zN,hrl];(try dsimp only [zJ] at *);omega)) ?_;cbv;have e22:Ci+2-2=Ci:=by omega);refine⟨zD om om,zD (by show _<=(nx IntKind.i64 _-2)*_;rw[hq,e22];(try dsimp only [zJ] at *);omega) (by show (nx IntKind.i64 _-2)*_<=_;rw[hq,e22];(try dsimp only [zJ] at *);omega),zD (by show _<=W+imin _ ((nx IntKind.i64 _-2)*_);rw[hq,e22];(try dsimp only [zJ] at *);omega) (by show W+imin _ ((nx IntKind.i64 _-2)*_)<=_;rw[hq,e22];(try dsimp only [zJ] at *);omega),zD om om,i+1,om,om,.le (by cbv;rw[hW2i];repeat' first|exact trivial|exact lR|exact zC om|exact zC (by rw[hW,hq,e22])|apply And.intro) (by cbv;rw[hO2,hL2];repeat' first|exact trivial|exact lR|exact yB rfl (by (try dsimp only [zJ] at *);simp[y8,zN,hrl];omega)|exact zB (by rw[hR,<-bA];rfl)|apply And.intro) rfl⟩
 ·have hin:i=n:=om;subst hin;obtain⟨O,hO⟩:∃ x,GO i=x:=⟨_,rfl⟩;obtain⟨L,hL⟩:∃ x,GR i=x:=⟨_,rfl⟩;obtain⟨W,hWi⟩:∃ x,GW i=x:=⟨_,rfl⟩;have hrl:=rl i;rw[hO,hL] at cso cpr;rw[hL] at hrl;obtain⟨st1,val,pt,du,ry,bas,pv⟩:=s;dsimp only at hs1;subst hs1
  try unfold slv at cso
  (try unfold slv at cpr);dsimp only at cso cpr cm cw
  (obtain⟨Z,hZ⟩:∃ Z,zL val=Z:=⟨_,rfl⟩;rw[hZ] at cso cpr cm cw;rw[<-htru] at cpr;have es3:((enc ac L).drop 0).take (2*i)=enc ac L:=by rw[List.drop_zero,List.take_of_length_le (by rw[zN,hrl];exact Nat.le_refl _)]);have es4:0+2*i<=(enc ac L).length:=by rw[zN,hrl];omega
  rw[hWi] at cw;clear st' hCe rl hZ hw1 hw2;cbv;rw[hO,hL,hWi];clear hO hL hWi;obtain⟨ots,oc⟩:=O;cbv;refine jH (.frz 54 rfl rfl (by cbv;repeat' first|exact trivial|exact yM es4|apply And.intro) (by cbv;repeat' first|exact trivial|exact yM es4|apply And.intro)) rfl (by exact⟨⟨lR,zX es3,lR,lR,lR,lR,trivial⟩,trivial⟩) cso rfl ?_;cbv;refine zZ 21 (by cbv) ?_;cbv;refine v6 rfl ?_;cbv;refine v6 rfl ?_;cbv;refine dA cw ?_;cbv;refine dA cm ?_;cbv;refine v6 rfl ?_;cbv;refine uX (by exact⟨⟨lR,zX es3,lR,lR,lR,lR,trivial⟩,okA,trivial⟩) cpr rfl ?_;cbv
  (refine rC ?_;cbv)
  exact zK htru
end Go.Proofs.YtfainocfaddbdaaGreat
