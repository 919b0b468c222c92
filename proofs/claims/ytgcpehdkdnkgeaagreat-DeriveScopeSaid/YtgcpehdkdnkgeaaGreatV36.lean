/- A part of the proof: RtC, RuA, RuB, RuC, RuD, RuE. -/
import Derived.Test.YtgcpehdkdnkgeaaGreatV35
import Derived.Test.YtgcpehdkdnkgeaaGreatV30
import Derived.Test.YtgcpehdkdnkgeaaGreatV33
import Derived.Test.YtgcpehdkdnkgeaaGreatV32
import Derived.Test.YtgcpehdkdnkgeaaGreatV29
set_option linter.all false
namespace Go.Proofs.YtgcpehdkdnkgeaaGreat
open Go
set_option maxRecDepth 100000
set_option maxHeartbeats 4000000
theorem zGS (i:Int)(x:R)(hx:x.sz (2^26)):zE 124 [av (fA (F.var i)),av ⟨[],x⟩] (av (fA ((F.var i).sub (F.num x.q)))):=by
 have h:=zCS (F.var i).ts (zJ (F.var i).c) ⟨[],x⟩ (aC i) Cn.nil ⟨by show 1<_;decide,fun t ht=>((w7 i).t t ht).mono (by decide)⟩ ((z8 (w7 i).c).mono (by decide)) ⟨⟨by show 0<_;decide,fun t ht=>absurd ht (by simp)⟩,hx⟩ (by show 1+0<_;decide)
 rw[z9] at h
 exact h
theorem zNN (i:Int)(x:R)(hx:x.sz (2^26)):zE 124 [av ⟨[],x⟩,av (fA (F.var i))] (av (fA ((F.num x.q).sub (F.var i)))):=by
 have h:=zCS [] x (fA (F.var i)) Cn.nil (by rw[show (fA (F.var i)).ts=tR (F.var i).ts from rfl,zFK];exact aC i) ⟨by show 0<_;decide,fun t ht=>absurd ht (by simp)⟩ (hx.mono (by decide)) ((nX (w7 i) (by decide)).mono (by decide)) (by rw[show (fA (F.var i)).ts=tR (F.var i).ts from rfl,x8];show 0+1<_;decide)
 rw[uK] at h
 exact h
theorem zKA {s:Scp}{r:Row}(h:14≤r.k):s.fUn r=none:=by
 unfold Scp.fUn
 split
 ·split
  ·unfold unF
   rw[if_neg (by omega),if_neg (by omega),if_neg (by omega),if_neg (by omega),if_neg (by omega),if_neg (by omega),if_neg (by omega),if_neg (by omega),if_neg (by omega)]
  ·rfl
 ·rfl
theorem zDM (s:Scp)(r:Row)(hs:s.sz (2^20)):zE 71 [sv s,rwv r] (.tup [fv ((s.fm r).getD F.zero),.bool (fun _=>(s.fm r).isSome)]):=by
 refine sF Tryz.f71 ?_
 have cv:=zFL s.q (hs.q.mono (by decide))
 have cun:=fun (h:s.q.valid=true)=>zQI s r hs (Qry.can_of h) (Qry.vok_of h).n1 (Qry.vok_of h).n2 (Qry.vok_of h).ul (Qry.vok_of h).up
 have crw:=fun (h:s.q.valid=true)=>(Qry.can_of h).rows
 have hft:∀ d,d∈s.path→zE 97 [qv s.q,dv d] (.bool (fun _=>d.fits s.q)):=fun d hd=>zFW s.q d ((hs.path.sz d hd).mono (by decide))
 have f2:s.q.valid=false→s.fm r=none:=fun h=>if_pos (.inr (.inr h))
 have f0:r.k<1→s.fm r=none:=fun h=>if_pos (.inl h)
 have f3:s.q.valid=true→1≤r.k→r.k≤4→s.fm r=s.fIn r:=fun h h1 h2=>by
  unfold Scp.fm
  rw[if_neg (by rw[h];simp;omega),if_pos h2]
 have f4:s.q.valid=true→5≤r.k→s.fm r=s.fUn r:=fun h h1=>by
  by_cases h14:14≤r.k
  ·rw[zKA h14];exact if_pos (.inr (.inl h14))
  unfold Scp.fm
  rw[if_neg (by rw[h];simp;omega),if_neg (by omega)]
 have fno:¬ (r.plain=true∧0≤r.i)→s.fIn r=none:=fun h=>if_neg h
 have p1:r.plain=true→0≤r.i→r.k=1→s.fIn r=s.q.r.lo[r.i.toNat]?.map fun x=>(F.var r.i).sub (F.num x.q):=fun h1 h2 h3=>by unfold Scp.fIn;rw[if_pos ⟨h1,h2⟩,if_pos h3]
 have p2:r.plain=true→0≤r.i→r.k=2→s.fIn r=s.q.r.hi[r.i.toNat]?.map fun x=>(F.num x.q).sub (F.var r.i):=fun h1 h2 h3=>by unfold Scp.fIn;rw[if_pos ⟨h1,h2⟩,if_neg (by omega),if_pos h3]
 have p3:r.plain=true→0≤r.i→r.k=3→s.fIn r=s.q.r.rows[r.i.toNat]?.map fun f=>f.f.add F.zero:=fun h1 h2 h3=>by unfold Scp.fIn;rw[if_pos ⟨h1,h2⟩,if_neg (by omega),if_neg (by omega),if_pos h3]
 have p4:∀ d,r.plain=true→0≤r.i→r.k=4→s.path[r.i.toNat]?=some d→s.fIn r=if d.fits s.q=true then (if d.k=3 then some ((F.var d.i).sub (F.num d.x.q)) else if d.k=4 then some (((F.var d.i).sub (F.num d.x.q)).scale (-1)) else none) else none:=fun d h1 h2 h3 h4=>by unfold Scp.fIn;rw[if_pos ⟨h1,h2⟩,if_neg (by omega),if_neg (by omega),if_neg (by omega),if_pos h3,h4]
 have p4n:r.plain=true→0≤r.i→r.k=4→s.path[r.i.toNat]?=none→s.fIn r=none:=fun h1 h2 h3 h4=>by unfold Scp.fIn;rw[if_pos ⟨h1,h2⟩,if_neg (by omega),if_neg (by omega),if_neg (by omega),if_pos h3,h4]
 have hlo:=hs.q.r.lo.sz
 have hhi:=hs.q.r.hi.sz
 have hpa:=hs.path.sz
 obtain⟨ft,hftd⟩:∃ ft:Dec→Bool,∀ d,ft d=d.fits s.q:=⟨_,fun _=>rfl⟩
 simp only[←hftd] at hft p4
 clear hftd
 obtain⟨o,ho⟩:∃ o,o=s.fm r:=⟨_,rfl⟩
 rw[←ho] at f0 f2 f3 f4 ⊢
 obtain⟨W,hW⟩:∃ W,W=fA (o.getD F.zero):=⟨_,rfl⟩
 obtain⟨b,hb⟩:∃ b,b=o.isSome:=⟨_,rfl⟩
 rw[show fv (o.getD F.zero)=av W by rw[hW],←hb]
 have fin2:∀ f,o=some f→W=fA f∧b=true:=fun f h=>by rw[h] at hW hb;exact⟨hW,hb⟩
 have fin1:o=none→W=⟨[],R0⟩∧b=false:=fun h=>by
  rw[h] at hW hb
  exact⟨hW.trans uF,hb⟩
 obtain⟨wt,w1,w2,w3⟩:=W
 have fin3:o=none→wt=[]∧w1=false∧w2=[]∧w3=[]∧b=false:=fun h=>by
  obtain⟨h1,h2⟩:=fin1 h
  simp only[A.mk.injEq,R.mk.injEq] at h1
  exact⟨h1.1,h1.2.1,h1.2.2.1,h1.2.2.2,h2⟩
 clear fin1
 have g4:s.q.valid=true→5≤r.k→zE 136 [sv s,rwv r] (.tup [av ⟨wt,w1,w2,w3⟩,.bool (fun _=>b)]):=fun h h1=>by
  rw[hW,hb,f4 h h1]
  exact cun h
 clear hW hb f4 cun ho
 generalize s.q.valid=vd at *
 generalize s.fIn r=oi at *
 obtain⟨⟨⟨gn,us,os⟩,⟨lo,hi,rows⟩,⟨ts,c1,c2,c3⟩⟩,path,lems⟩:=s
 obtain⟨k,i,rlo,rhi⟩:=r
 simp only[Row.plain] at f0 f2 f3 fno p1 p2 p3 p4 p4n hlo hhi hpa crw hft g4
 cbv
 refine cA cv ?_
 cbv
 refine zS (fun ev=>?_) (fun ev=>?_)
 rotate_left
 ·cbv
  obtain⟨q0,q1,q2,q3,q4⟩:=fin3 (f2 ev)
  subst q0 q1 q2 q3 q4
  (refine rC ?_;cbv)
  exact okA
 cbv
 refine zH (fun e5=>?_) (fun e5=>?_)
 ·have g:=g4 ev e5
  cbv
  refine cA g ?_
  cbv
  (refine rC ?_;cbv)
  exact okA
 dsimp only at e5
 have f5:oi=none→o=none:=fun h=>by
  by_cases h1:k<1
  ·exact f0 h1
  ·rw[f3 ev (by omega) (by omega),h]
 have f6:∀ f,1≤k→oi=some f→o=some f:=fun f h1 h=>by rw[f3 ev h1 (by omega),h]
 clear g4 f2 cv f3
 have Z:=fun (h:oi=none)=>fin3 (f5 h)
 clear f5
 cbv
 refine zR (fun e1=>?_) (fun e1=>?_)
 rotate_left
 ·have hz:oi=none:=fno (by dsimp only at e1;simp [e1])
  cbv
  obtain⟨q0,q1,q2,q3,q4⟩:=Z hz
  subst q0 q1 q2 q3 q4
  (refine rC ?_;cbv)
  exact okA
 cbv
 refine zR (fun e2=>?_) (fun e2=>?_)
 rotate_left
 ·have hz:oi=none:=fno (by dsimp only at e2;simp [e2])
  cbv
  obtain⟨q0,q1,q2,q3,q4⟩:=Z hz
  subst q0 q1 q2 q3 q4
  (refine rC ?_;cbv)
  exact okA
 cbv
 refine zH (fun e3=>?_) (fun e3=>?_)
 ·have hz:oi=none:=fno (by dsimp only at e3;omega)
  cbv
  obtain⟨q0,q1,q2,q3,q4⟩:=Z hz
  subst q0 q1 q2 q3 q4
  (refine rC ?_;cbv)
  exact okA
 cbv
 have hpl:(decide (rlo=0) && decide (rhi=0))=true:=by dsimp only at e1 e2;simp_all
 obtain⟨ip,hip⟩:∃ j:Nat,i=(j:Int):=⟨i.toNat,by dsimp only at e3;omega⟩
 subst hip
 simp only[Int.toNat_natCast] at p1 p2 p3 p4 p4n
 have hk:k=1∨k=2∨k=3∨k=4∨k<1:=by omega
 rcases hk with rfl | rfl | rfl | rfl | hk
 ·refine xI (by simp) ?_
  cbv
  refine zH (fun e=>?_) (fun e=>?_)
  ·have hl:=jL e
   obtain⟨x,hx⟩:=yA hl
   have hxm:=List.mem_of_getElem? hx
   have po:=p1 hpl (by show (0:Int)≤(ip:Int);omega) rfl
   rw[hx] at po
   have T:=fin2 _ (f6 _ (by decide) po)
   have dv:=r5 (ip:Int)
   have dn:=r6 x
   have d:=zGS (ip:Int) x ((hlo x hxm).mono (by decide))
   obtain⟨V,hV⟩:∃ V,fA (F.var (ip:Int))=V:=⟨_,rfl⟩
   obtain⟨X,hX⟩:∃ V,fA ((F.var (ip:Int)).sub (F.num x.q))=V:=⟨_,rfl⟩
   rw[hX] at T d
   rw[hV] at d
   have dv':zE 125 [.int .i64 (fun _=>(ip:Int))] (av V):=by subst hV;exact dv
   clear dv hX hV
   cbv
   refine zO 11 (by cbv) ?_
   cbv
   refine dA dv' ?_
   cbv
   refine wL hx jS dW ?_
   cbv
   refine dA dn ?_
   cbv
   refine dA d ?_
   cbv
   obtain⟨g1,g2⟩:=T
   cases g1
   subst g2
   (refine rC ?_;cbv)
   exact okA
  ·have hz:oi=none:=by
    have hl:¬ ip<lo.length:=fun h=>e (by rw[zA];show (ip:Int)<(lo.length:Int);omega)
    rw[p1 hpl (by show (0:Int)≤(ip:Int);omega) rfl,List.getElem?_eq_none (by omega)];rfl
   cbv
   obtain⟨q0,q1,q2,q3,q4⟩:=Z hz
   subst q0 q1 q2 q3 q4
   (refine rC ?_;cbv)
   exact okA
 ·skip
  refine z3 (by simp) ?_
  cbv
  refine xI (by simp) ?_
  cbv
  refine zH (fun e=>?_) (fun e=>?_)
  ·have hl:=jL e
   obtain⟨x,hx⟩:=yA hl
   have hxm:=List.mem_of_getElem? hx
   have po:=p2 hpl (by show (0:Int)≤(ip:Int);omega) rfl
   rw[hx] at po
   have T:=fin2 _ (f6 _ (by decide) po)
   have dv:=r5 (ip:Int)
   have dn:=r6 x
   have d:=zNN (ip:Int) x ((hhi x hxm).mono (by decide))
   obtain⟨V,hV⟩:∃ V,fA (F.var (ip:Int))=V:=⟨_,rfl⟩
   obtain⟨X,hX⟩:∃ V,fA ((F.num x.q).sub (F.var (ip:Int)))=V:=⟨_,rfl⟩
   rw[hX] at T d
   rw[hV] at d
   have dv':zE 125 [.int .i64 (fun _=>(ip:Int))] (av V):=by subst hV;exact dv
   clear dv hX hV
   cbv
   refine zO 11 (by cbv) ?_
   cbv
   refine wL hx jS dW ?_
   cbv
   refine dA dn ?_
   cbv
   refine dA dv' ?_
   cbv
   refine dA d ?_
   cbv
   obtain⟨g1,g2⟩:=T
   cases g1
   subst g2
   (refine rC ?_;cbv)
   exact okA
  ·have hz:oi=none:=by
    have hl:¬ ip<hi.length:=fun h=>e (by rw[zA];show (ip:Int)<(hi.length:Int);omega)
    rw[p2 hpl (by show (0:Int)≤(ip:Int);omega) rfl,List.getElem?_eq_none (by omega)];rfl
   cbv
   obtain⟨q0,q1,q2,q3,q4⟩:=Z hz
   subst q0 q1 q2 q3 q4
   (refine rC ?_;cbv)
   exact okA
 ·skip
  refine z3 (by simp) ?_
  cbv
  refine z3 (by simp) ?_
  cbv
  refine xI (by simp) ?_
  cbv
  refine zH (fun e=>?_) (fun e=>?_)
  ·have hl:=jL e
   obtain⟨x,hx⟩:=yA hl
   obtain⟨w1',w2'⟩:=crw ev x (List.mem_of_getElem? hx)
   have po:=p3 hpl (by show (0:Int)≤(ip:Int);omega) rfl
   rw[hx] at po
   have T:=fin2 (x.f.add F.zero) (f6 _ (by decide) po)
   rw[add_zero w2',w1'] at T
   cbv
   refine wL hx jA dE ?_
   cbv
   obtain⟨g1,g2⟩:=T
   cases g1
   subst g2
   (refine rC ?_;cbv)
   exact okA
  ·have hz:oi=none:=by
    have hl:¬ ip<rows.length:=fun h=>e (by rw[zA];show (ip:Int)<(rows.length:Int);omega)
    rw[p3 hpl (by show (0:Int)≤(ip:Int);omega) rfl,List.getElem?_eq_none (by omega)];rfl
   cbv
   obtain⟨q0,q1,q2,q3,q4⟩:=Z hz
   subst q0 q1 q2 q3 q4
   (refine rC ?_;cbv)
   exact okA
 ·skip
  refine z3 (by simp) ?_
  cbv
  refine z3 (by simp) ?_
  cbv
  refine z3 (by simp) ?_
  cbv
  refine xI (by simp) ?_
  cbv
  refine zO 18 (by cbv) ?_
  cbv
  refine zR (fun e=>?_) (fun e=>?_)
  ·have hz:oi=none:=p4n hpl (by show (0:Int)≤(ip:Int);omega) rfl (List.getElem?_eq_none (by rw[zA] at e;(try dsimp only [zG] at *);omega))
   cbv
   obtain⟨q0,q1,q2,q3,q4⟩:=Z hz
   subst q0 q1 q2 q3 q4
   (refine rC ?_;cbv)
   exact okA
  have hl:ip<path.length:=by rw[zA] at e;(try dsimp only [zG] at *);omega
  obtain⟨x,hx⟩:=yA hl
  have hxm:=List.mem_of_getElem? hx
  have po:=p4 x hpl (by show (0:Int)≤(ip:Int);omega) rfl hx
  have hsz:=hpa x hxm
  have cf:=hft x hxm
  have dv:=r5 x.i
  have dn:=r6 x.x
  have d:=zGS x.i x.x (hsz.mono (by decide))
  have co:=s32 (-1) (by decide) (by decide)
  have d2:=gP (q:=((-1:Int):Rat)) ((w7 x.i).sub (wH (hsz.fits (by decide)))) xM (by decide) (by decide) (m:=1) (by decide)
  rw[show (((-1:Int):Rat))=(-1:Rat) by rfl] at co d2
  obtain⟨V,hV⟩:∃ V,fA (F.var x.i)=V:=⟨_,rfl⟩
  obtain⟨X,hX⟩:∃ V,fA ((F.var x.i).sub (F.num x.x.q))=V:=⟨_,rfl⟩
  obtain⟨Y,hY⟩:∃ V,fA (((F.var x.i).sub (F.num x.x.q)).scale (-1))=V:=⟨_,rfl⟩
  obtain⟨M1,hM1⟩:∃ V,zJ (-1:Rat)=V:=⟨_,rfl⟩
  have T3:=fun h=>fin2 ((F.var x.i).sub (F.num x.x.q)) h
  have T4:=fun h=>fin2 (((F.var x.i).sub (F.num x.x.q)).scale (-1)) h
  rw[hX] at T3 d
  rw[hV] at d
  rw[hY] at T4
  rw[hM1] at co
  have dv':zE 125 [.int .i64 (fun _=>x.i)] (av V):=by subst hV;exact dv
  have d2':zE 59 [av X,rv M1] (av Y):=by subst hX hY hM1;exact d2
  clear dv d2 hX hV hY hM1
  obtain⟨fx,hfx⟩:∃ b,ft x=b:=⟨_,rfl⟩
  rw[hfx] at cf po
  cbv
  refine wL hx dO cH ?_
  cbv
  refine dA cf ?_
  cbv
  refine zS (fun e2=>?_) (fun e2=>?_)
  rotate_left
  ·have hz:oi=none:=by rw[po,e2];rfl
   cbv
   obtain⟨q0,q1,q2,q3,q4⟩:=Z hz
   subst q0 q1 q2 q3 q4
   (refine rC ?_;cbv)
   exact okA
  rw[if_pos e2] at po
  cbv
  refine wL hx dO cH ?_
  cbv
  refine u7 8 (by cbv) (by cbv) ?_
  cbv
  refine dA dv' ?_
  cbv
  refine dA dn ?_
  cbv
  refine dA d ?_
  cbv
  refine zH (fun e3=>?_) (fun e3=>?_)
  ·rw[if_pos e3] at po
   have T:=T3 (f6 _ (by decide) po)
   cbv
   obtain⟨g1,g2⟩:=T
   cases g1
   subst g2
   (refine rC ?_;cbv)
   exact okA
  rw[if_neg e3] at po
  cbv
  refine zH (fun e4=>?_) (fun e4=>?_)
  ·rw[if_pos e4] at po
   have T:=T4 (f6 _ (by decide) po)
   cbv
   refine zO 3 (by cbv) ?_
   cbv
   refine dA co ?_
   cbv
   refine dA d2' ?_
   cbv
   obtain⟨g1,g2⟩:=T
   cases g1
   subst g2
   (refine rC ?_;cbv)
   exact okA
  rw[if_neg e4] at po
  cbv
  obtain⟨q0,q1,q2,q3,q4⟩:=Z po
  subst q0 q1 q2 q3 q4
  (refine rC ?_;cbv)
  exact okA
 ·skip
  refine z3 (by show ¬ k=1;omega) ?_
  cbv
  refine z3 (by show ¬ k=2;omega) ?_
  cbv
  refine z3 (by show ¬ k=3;omega) ?_
  cbv
  refine z3 (by show ¬ k=4;omega) ?_
  cbv
  obtain⟨q0,q1,q2,q3,q4⟩:=fin3 (f0 (by omega))
  subst q0 q1 q2 q3 q4
  (refine rC ?_;cbv)
  exact okA
theorem zOC {s:Scp}{r:Row}{f:F}(hc:s.q.can)(h:s.fIn r=some f):Cn f.ts:=by
 unfold Scp.fIn at h
 split at h
 ·split at h
  ·obtain⟨x,_,rfl⟩:=Option.map_eq_some_iff.1 h
   exact iK (aC _) Cn.nil
  ·split at h
   ·obtain⟨x,_,rfl⟩:=Option.map_eq_some_iff.1 h
    exact iK (Cn.nil:Cn (F.num _).ts) (aC _)
   ·split at h
    ·obtain⟨x,hx,rfl⟩:=Option.map_eq_some_iff.1 h
     have:=(hc.rows x (List.mem_of_getElem? hx)).2
     rw[add_zero this]
     exact this
    ·split at h
     ·split at h
      ·split at h
       ·split at h
        ·cases h;exact iK (aC _) Cn.nil
        ·split at h
         ·cases h;exact cL (iK (aC _) Cn.nil)
         ·cases h
       ·cases h
      ·cases h
     ·cases h
 ·cases h
theorem zLN {s:Scp}{r:Row}{f:F}(h:s.fm r=some f):Cn f.ts:=by
 unfold Scp.fm at h
 split at h
 ·cases h
 ·rename_i hv
  have hc:s.q.can:=Qry.can_of (by cases hvv:s.q.valid with
   | true=>rfl
   | false=>exact absurd (.inr (.inr hvv)) hv)
  split at h
  ·exact zOC hc h
  ·unfold Scp.fUn at h
   split at h
   ·split at h
    ·rename_i p hp
     exact zKU (hc.us p (List.mem_of_getElem? hp)).2 (aC _) h
    ·cases h
   ·cases h
structure SumOk (s:Scp) (l:List Mult):Prop where
 fm:∀ m,m∈l→∀ f,s.fm m.row=some f→f.fl (2^24) 5000
 c:Msz (2^20) l
 pre:∀ i acc,sumL s F.zero (l.take i)=some acc→acc.fl (2^26) (2^30)
theorem zAF {s:Scp}{m:Mult}{f:F}(hf:s.fm m.row=some f):∀ {l:List Mult} {acc acc':F},sumL s acc l=some acc'→sumL s acc (l++[m])=some (acc'.add (f.scale m.c.q))
 | [],acc,acc',h=>by
  cases h
  show (match s.fm m.row with | none=>none | some f=>sumL s (acc.add (f.scale m.c.q)) [])=_
  rw[hf];rfl
 | x::r,acc,acc',h=>by
  rw[List.cons_append]
  unfold sumL at h ⊢
  cases hx:s.fm x.row with
  | none=>rw[hx] at h;cases h
  | some g =>
   rw[hx] at h
   exact zAF hf h
theorem iJ {α:Type}{l:List α}{i:Nat}{a:α}(h:l[i]?=some a):l.take (i+1)=l.take i++[a]:=by rw[List.take_add_one,h];rfl
theorem p7 (s:Scp)(l:List Mult)(hs:s.sz (2^20))(hok:SumOk s l):zE 18 [sv s,mlv l] (.tup [fv (s.sum l).2,.int .i64 (fun _=>(s.sum l).1)]):=by
 refine sF Tryz.f18 ?_
 have hl:=hok.c
 have cc:=zQE l (hl.mono (by decide))
 have cf:=fun r=>zDM s r (hs.mono (by decide))
 have h0:v6 none l=false→s.sum l=(1,F.zero):=fun h=>if_pos h
 have h1:v6 none l=true→sumL s F.zero l=none→s.sum l=(12,F.zero):=fun h g=>by unfold Scp.sum;rw[if_neg (by rw[h];decide),g]
 have h2:∀ f,v6 none l=true→sumL s F.zero l=some f→s.sum l=(0,f):=fun f h g=>by unfold Scp.sum;rw[if_neg (by rw[h];decide),g]
 obtain⟨W,hW⟩:∃ W,W=fA (s.sum l).2:=⟨_,rfl⟩
 obtain⟨e,he⟩:∃ e,e=(s.sum l).1:=⟨_,rfl⟩
 rw[show fv (s.sum l).2=av W by rw[hW],←he]
 have g0:v6 none l=false→W=⟨[],R0⟩∧e=1:=fun h=>by rw[h0 h] at hW he;exact⟨hW.trans uF,he⟩
 have g1:v6 none l=true→sumL s F.zero l=none→W=⟨[],R0⟩∧e=12:=fun h g=>by rw[h1 h g] at hW he;exact⟨hW.trans uF,he⟩
 have g2:∀ f,v6 none l=true→sumL s F.zero l=some f→W=fA f∧e=0:=fun f h g=>by rw[h2 f h g] at hW he;exact⟨hW,he⟩
 clear h0 h1 h2 hW he
 have hll:l.length<2^38:=hl.len
 have hsn:∀ acc m r,sumL s acc (m::r)=match s.fm m.row with
  | none=>none
  | some f=>sumL s (acc.add (f.scale m.c.q)) r:=fun _ _ _=>rfl
 have hfl:∀ m,m∈l→∀ f,s.fm m.row=some f→f.fl (2^24) 5000∧Cn f.ts:=fun m hm f h=>⟨hok.fm m hm f h,zLN h⟩
 have hpre:=hok.pre
 have hsn':∀ i m f acc,l[i]?=some m→s.fm m.row=some f→sumL s F.zero (l.take i)=some acc→sumL s F.zero (l.take (i+1))=some (acc.add (f.scale m.c.q)):=fun i m f acc h1 h2 h3=>by rw[iJ h1];exact zAF h2 h3
 obtain⟨PR,hPR⟩:∃ PR:Nat→F→Prop,∀ i acc,PR i acc=(sumL s F.zero (l.take i)=some acc):=⟨_,fun _ _=>rfl⟩
 have hPR0:PR 0 F.zero:=by rw[hPR];rfl
 simp only[←hPR] at hpre hsn'
 have hms:=hl.sz
 obtain⟨T,hT⟩:∃ T:F→List Mult→Option F,sumL s=T:=⟨_,rfl⟩
 have hTn:∀ acc,T acc []=some acc:=fun acc=>by rw[←hT];rfl
 rw[hT] at hsn g1 g2
 generalize v6 none l=cn at *
 clear hT hs hl hok hPR
 cbv
 refine cA cc ?_
 cbv
 refine zS (fun e1=>?_) (fun e1=>?_)
 rotate_left
 ·cbv
  obtain⟨q1,q2⟩:=g0 e1
  subst q1 q2
  (refine rC ?_;cbv)
  exact okA
 have g1':=g1 e1
 have g2':=fun f=>g2 f e1
 clear g0 g1 g2 cc
 cbv
 refine zY (σ:=Nat × F) (fun st=>⟨[(1,mlv l),(2,.ptr 2 0),(4,.ptr 4 0),(6,.ptr 6 0),(7,.int .i64 (fun _=>(st.1:Int)))],[(2,.box (sc s)),(4,.box [.nil,.ff,.nil,.nil]),(6,.box [tsv (fA st.2).ts,.bool (fun _=>(fA st.2).c.neg),nat (fA st.2).c.num,nat (fA st.2).c.den])]⟩)
  (fun st=>st.1≤l.length∧T F.zero l=T st.2 (l.drop st.1)∧PR st.1 st.2∧Cn st.2.ts) (fun st=>l.length - st.1)
  (0,F.zero) ⟨om,rfl,hPR0,Cn.nil⟩ (.le okZ ?_ rfl) ?_
 ·show leO _ [(2,.box (sc s)),(4,.box [.nil,.ff,.nil,.nil]),(6,.box [tsv (fA F.zero).ts,.bool (fun _=>(fA F.zero).c.neg),nat (fA F.zero).c.num,nat (fA F.zero).c.den])]
  rw[uF]
  cbv
  exact okA
 intro st hst
 obtain⟨h1,hv,ha,hcn⟩:=hst
 generalize st.1=i at *
 generalize st.2=acc at *
 obtain⟨V,hV⟩:∃ V,fA acc=V:=⟨_,rfl⟩
 simp only[hV]
 cbv
 refine zH (fun h5=>?_) (fun h5=>?_)
 ·have hlt:=jL h5
  obtain⟨m,hm⟩:=yA hlt
  have hmem:=List.mem_of_getElem? hm
  rw[zZ hm,hsn] at hv
  have cfm:=cf m.row
  have hmc:=hms m hmem
  have hxf:∀ f,s.fm m.row=some f→f.fl (2^24) 5000∧Cn f.ts:=fun f h=>hfl m hmem f h
  have hnx:∀ f,s.fm m.row=some f→PR (i+1) (acc.add (f.scale m.c.q)):=fun f h=>hsn' i m f acc hm h ha
  have hap:=hpre i acc ha
  generalize hx:s.fm m.row=o at *
  clear cf
  cases o with
  | none =>
   have hv':T F.zero l=none:=hv
   obtain⟨q1,q2⟩:=g1' hv'
   have cfm':zE 71 [sv s,rwv m.row] (.tup [av ⟨[],R0⟩,.bool (fun _=>false)]):=by
    have h:zE 71 [sv s,rwv m.row] (.tup [av (fA F.zero),.bool (fun _=>false)]):=cfm
    rw[uF] at h
    exact h
   clear cfm hv hv' g1' g2'
   subst q1 q2
   cbv
   refine vQ 12 [(11,8)] (by cbv) (by cbv) (by cbv) ?_
   cbv
   refine wL hm yS yO ?_
   cbv
   refine dA cfm' ?_
   cbv
   refine zS (fun e=>absurd e (by decide)) (fun _=>?_)
   cbv
   (refine rC ?_;cbv)
   exact okA
  | some f =>
   have hv':T F.zero l=T (acc.add (f.scale m.c.q)) (l.drop (i+1)):=hv
   obtain⟨hf,hfc⟩:=hxf f rfl
   have b1:=hf.scale (hmc.fits (by decide))
   have cs:=iX (fA f) m.c ((hf.fit (by decide)).fA.mono (by decide)) (hmc.mono (by decide))
   rw[uK] at cs
   have ca:=zMB hcn (cL (q:=m.c.q) hfc) hap b1 (by decide) (by decide) (by decide) (by decide)
   have hacc:=hnx f rfl
   have hcn':Cn (acc.add (f.scale m.c.q)).ts:=hcn.mrg (cL hfc)
   have cfm':zE 71 [sv s,rwv m.row] (.tup [av (fA f),.bool (fun _=>true)]):=cfm
   clear cfm hv hxf b1 ha hap hnx hcn hfc
   dsimp only [fv] at cs ca
   rw[hV] at ca
   generalize hA':acc.add (f.scale m.c.q)=acc' at *
   obtain⟨V',hV'⟩:∃ V',fA acc'=V':=⟨_,rfl⟩
   rw[hV'] at ca
   generalize fA (f.scale m.c.q)=X at *
   generalize fA f=Y at *
   cbv
   refine vQ 12 [(11,8)] (by cbv) (by cbv) (by cbv) ?_
   cbv
   refine wL hm yS yO ?_
   cbv
   refine dA cfm' ?_
   cbv
   refine zS (fun _=>?_) (fun e=>absurd e (by decide))
   cbv
   refine zO 9 (by cbv) ?_
   cbv
   refine wL hm yS yO ?_
   cbv
   refine dA cs ?_
   cbv
   refine dA ca ?_
   cbv
   refine⟨zD om om,(i+1,acc'),⟨om,hv',hacc,hcn'⟩,om,.le okZ ?_ rfl⟩
   show leO _ [(2,.box (sc s)),(4,.box [.nil,.ff,.nil,.nil]),(6,.box [tsv (fA acc').ts,.bool (fun _=>(fA acc').c.neg),nat (fA acc').c.num,nat (fA acc').c.den])]
   rw[hV']
   cbv
   exact okA
 ·have hi:i=l.length:=cG h5 h1
  rw[hi,List.drop_length,hTn] at hv
  obtain⟨q1,q2⟩:=g2' acc hv
  rw[hV] at q1
  clear g1' g2' hv
  subst q1 q2
  cbv
  (refine rC ?_;cbv)
  exact okA
theorem zGK {s:Scp}:∀ {l:List Mult} {acc f:F},Cn acc.ts→sumL s acc l=some f→Cn f.ts
 | [],acc,f,h,e=>by cases e;exact h
 | m::r,acc,f,h,e=>by
  unfold sumL at e
  cases hx:s.fm m.row with
  | none=>rw[hx] at e;cases e
  | some g =>
   rw[hx] at e
   exact zGK (h.mrg (cL (zLN hx))) e
theorem Scp.sum_can (s:Scp)(l:List Mult):Cn (s.sum l).2.ts:=by
 unfold Scp.sum
 split
 ·exact Cn.nil
 ·split
  ·exact Cn.nil
  ·rename_i h
   exact zGK (acc:=F.zero) Cn.nil h
theorem Scp.sum_fl' {s:Scp}{l:List Mult}(h:SumOk s l):(s.sum l).2.fl (2^26) (2^30):=by
 unfold Scp.sum
 split
 ·exact zero_fl.mono (by decide) (by decide)
 ·split
  ·exact zero_fl.mono (by decide) (by decide)
  ·rename_i f hf
   exact h.pre l.length f (by rw[List.take_length];exact hf)
def Scp.provesR (s:Scp) (f:A) (l:List Mult):Bool:=decide ((s.sum l).1=0) && (f.valid 4611686018427387904 && (decide ((f.f.sub (s.sum l).2).ts.length=0) && decide (0≤yB (f.f.sub (s.sum l).2).c)))
theorem zNI (s:Scp)(f:A)(l:List Mult)(hs:s.sz (2^20))(hf:f.sz (2^22))(hft:f.ts.length≤2^34)(hok:SumOk s l):zE 133 [sv s,av f,mlv l] (.bool (fun _=>s.provesR f l)):=by
 refine sF Tryz.f133 ?_
 have cs:=p7 s l hs hok
 have cv:=sR7V f 4611686018427387904 (hf.mono (by decide))
 have fl:=Scp.sum_fl' hok
 have fc:=Scp.sum_can s l
 have hff:f.f.fl (2^22) (2^34):=hf.fl (by decide) hft
 have fr:Fits (2^34) (f.f.sub (s.sum l).2).c:=((hff.sub fl).mono (by decide) (Nat.le_refl _)).c
 have cb:f.valid 4611686018427387904=true→zE 124 [av f,av (fA (s.sum l).2)] (av (fA (f.f.sub (s.sum l).2))):=fun h=>by
  obtain⟨h1,h2⟩:=jZ h
  have:=nM h2 fc hff fl (by decide) (by decide) (by decide) (by decide)
  dsimp only [fv] at this
  rw[h1] at this
  exact this
 have cg:=s35 (zJ (f.f.sub (s.sum l).2).c) (Nat.lt_of_le_of_lt (z8 fr).n (by decide))
 rw[z9] at cg
 have hr:s.provesR f l=(decide ((s.sum l).1=0) && (f.valid 4611686018427387904 && (decide ((tR (f.f.sub (s.sum l).2).ts).length=0) && decide (0≤yB (f.f.sub (s.sum l).2).c)))):=by rw[x8];rfl
 rw[hr]
 dsimp only [fv] at cs
 have e1:fA (f.f.sub (s.sum l).2)=⟨tR (f.f.sub (s.sum l).2).ts,zJ (f.f.sub (s.sum l).2).c⟩:=rfl
 rw[e1] at cb
 clear hr e1 fl fr hff hf hs hok fc
 generalize yB (f.f.sub (s.sum l).2).c=sg at *
 generalize zJ (f.f.sub (s.sum l).2).c=C at *
 generalize tR (f.f.sub (s.sum l).2).ts=T at *
 generalize fA (s.sum l).2=V at *
 generalize (s.sum l).1=e at *
 generalize f.valid 4611686018427387904=vd at *
 cbv
 refine cA cs ?_
 cbv
 refine zR (fun h=>?_) (fun h=>?_)
 ·cbv
  refine cA cv ?_
  cbv
  refine zS (fun h2=>?_) (fun h2=>?_)
  ·have cb':=cb h2
   cbv
   refine cA cb' ?_
   cbv
   refine zR (fun h3=>?_) (fun h3=>?_)
   ·cbv
    refine cA cg ?_
    cbv
    (refine rC ?_;cbv)
    refine zV ?_
    rw[decide_eq_true h,h2,decide_eq_true (p:=T.length=0) (by rw[zA] at h3;(try dsimp only [zG] at *);omega)]
    simp
   ·cbv
    (refine rC ?_;cbv)
    refine zN ?_
    rw[decide_eq_false (p:=T.length=0) (by rw[zA] at h3;(try dsimp only [zG] at *);omega)]
    simp
  ·cbv
   (refine rC ?_;cbv)
   exact zN (by rw[h2];simp)
 ·cbv
  (refine rC ?_;cbv)
  exact zN (by rw[decide_eq_false h];simp)
theorem zOW {vars:Int}:∀ {ts:List (Int × R)} {p:Int},vT vars p ts=true→∀ t,t∈tq ts→0≤t.1∧t.1<vars
 | [],p,_,t,ht=>absurd ht (by simp [tq])
 | x::r,p,h,t,ht=>by
  unfold vT at h
  simp only[Bool.and_eq_true,decide_eq_true_eq] at h
  rcases List.mem_cons.1 (show t∈(x.1,x.2.q)::tq r from ht) with rfl | ht
  ·exact⟨h.1.1.1.1.1,h.1.1.1.1.2⟩
  ·exact zOW h.2 t ht
theorem A.valid_wf {a:A}{vars:Int}(h:a.valid vars=true):a.f.wf vars:=⟨(jZ h).2,fun t ht=>by
 unfold A.valid at h
 rw[Bool.and_eq_true] at h
 exact zOW h.1 t ht⟩
theorem zRX {q:Qry}(h:q.valid=true){p:A}(hp:p∈q.g.us):p.f.wf 2000:=by
 have hv:=Qry.vok_of h
 unfold Qry.valid Grp.valid Reg.valid at h
 simp only[Bool.and_eq_true,decide_eq_true_eq,List.all_eq_true] at h
 obtain⟨⟨⟨⟨h1,h2⟩,h3⟩,⟨h4,h5⟩,h6⟩,h7⟩:=h
 obtain⟨j,hj,hh⟩:=zCP h2 hp
 exact (A.valid_wf hh).mono (by have:=hv.n2;have:=hv.ul;omega)
theorem zN7 {m:Lem}{p:F}{n:Int}(hp:p.wf n):(m.form p).wf n:=by
 unfold Lem.form
 split
 ·exact (F.wf.merge hp (F.wf.num _ _)).scale
 ·exact F.wf.merge hp (F.wf.num _ _)
theorem zE8 {s:Scp}{g:F}{l:List Mult}(h:g.wf 2000):s.provesR (fA g) l=s.proves (fA g) l:=by
 unfold Scp.provesR Scp.proves
 rw[(h.mono (by decide)).valid,(h.mono (by decide)).valid]
theorem zNK (s:Scp)(m:Lem)(hs:s.sz (2^20))(hm:m.v.sz (2^20))(hok:SumOk s m.pf):zE 67 [sv s,lv' m] (.bool (fun _=>s.lemB m)):=by
 refine sF Tryz.f67 ?_
 have cvd:=s129 m.v (hm.mono (by decide))
 have crv:=zFL s.q (hs.q.mono (by decide))
 have hno:¬ (0≤m.u∧m.u<s.q.g.us.length)→s.lemB m=false:=fun h=>by unfold Scp.lemB;rw[decide_eq_false h];rfl
 have hno2:m.v.ok=false→s.lemB m=false:=fun h=>by unfold Scp.lemB;rw[h];simp
 have hno3:s.q.valid=false→s.lemB m=false:=fun h=>by unfold Scp.lemB;rw[h];simp
 have hyes:∀ p,0≤m.u→m.u<s.q.g.us.length→m.v.ok=true→s.q.valid=true→s.q.g.us[m.u.toNat]?=some p→s.lemB m=s.proves (fA (m.form p.f)) m.pf:=fun p h1 h2 h3 h4 h5=>by
  unfold Scp.lemB
  rw[decide_eq_true ⟨h1,h2⟩,h3,h4,h5]
  rfl
 have hfp:∀ p,s.q.valid=true→p∈s.q.g.us→p.f.fl (2^20) 2000:=fun p h hp=>(hs.q.g.us.sz p hp).fl (by decide) ((Qry.vok_of h).up p hp)
 have hcs:∀ p,s.q.valid=true→m.v.ok=true→p∈s.q.g.us→zE 124 [av p,av ⟨[],m.v⟩] (av (fA (p.f.sub (F.num m.v.q)))):=fun p h h' hp=>by
  obtain⟨h1,h2⟩:=(Qry.can_of h).us p hp
  have:=nM h2 (Cn.nil:Cn (F.num m.v.q).ts) (hfp p h hp) (wH (hm.fits (by decide))) (by decide) (by decide) (by decide) (by decide)
  dsimp only [fv] at this
  rw[h1,show fA (F.num m.v.q)=⟨[],zJ m.v.q⟩ from rfl,zFN h'] at this
  exact this
 have hcm:∀ p,s.q.valid=true→p∈s.q.g.us→zE 59 [av (fA (p.f.sub (F.num m.v.q))),rv (zJ ((-1:Int):Rat))] (av (fA ((p.f.sub (F.num m.v.q)).scale (-1)))):=fun p h hp =>
  gP ((hfp p h hp).sub (wH (hm.fits (by decide)))) xM (by decide) (by decide) (m:=1) (by decide)
 have hcp:∀ p,s.q.valid=true→p∈s.q.g.us→zE 133 [sv s,av (fA (m.form p.f)),mlv m.pf] (.bool (fun _=>s.proves (fA (m.form p.f)) m.pf)):=fun p h hp=>by
  have ff:=zN8 (m:=m) (hfp p h hp) (hm.fits (by decide))
  have:=zNI s (fA (m.form p.f)) m.pf hs ((nX ff (by decide)).mono (by decide)) (by rw[show (fA (m.form p.f)).ts=tR (m.form p.f).ts from rfl,x8];have:=ff.len;omega) hok
  rw[zE8 (zN7 (zRX h hp))] at this
  exact this
 have c1:=s32 (-1) (by decide) (by decide)
 have cnm:=r6 m.v
 have hul:=hs.q.g.us.len
 generalize hres:s.lemB m=res at *
 generalize m.v.ok=ok at *
 generalize hvd:s.q.valid=vd at *
 clear hres hs hm hok hfp
 cbv
 refine cA crv ?_
 cbv
 refine z4 (fun e4=>?_) (fun e4=>?_)
 rotate_left
 ·cbv
  (refine rC ?_;cbv)
  exact zN (hno3 e4)
 cbv
 refine zR (fun e1=>?_) (fun e1=>?_)
 ·cbv
  (refine rC ?_;cbv)
  exact zN (hno om)
 cbv
 refine zR (fun e2=>?_) (fun e2=>?_)
 ·cbv
  (refine rC ?_;cbv)
  exact zN (hno (by rw[zA] at e2;(try dsimp only [zG] at *);omega))
 rw[zA] at e2
 cbv
 refine cA cvd ?_
 cbv
 refine zS (fun e3=>?_) (fun e3=>?_)
 rotate_left
 ·cbv
  (refine rC ?_;cbv)
  exact zN (hno2 e3)
 obtain⟨p,hp⟩:∃ p,s.q.g.us[m.u.toNat]?=some p:=yA om
 have hmem:=List.mem_of_getElem? hp
 have hr:=hyes p om om e3 e4 hp
 have cs:=hcs p e4 e3 hmem
 have cm:=hcm p e4 hmem
 have cp:=hcp p e4 hmem
 have hu:m.u=((m.u.toNat:Nat):Int):=by (try dsimp only [zG] at *);omega
 have hform:m.form p.f=if m.up=true then (p.f.sub (F.num m.v.q)).scale (-1) else p.f.sub (F.num m.v.q):=rfl
 have idx:∀ {K:List PV→Prop},K (ac p)→IdxOk 4 (fun _=>enc ac s.q.g.us) (fun _=>m.u) K:=fun hK=>jW hp hu jA dE hK
 rw[hr]
 clear hr hcs hcm hcp hyes hno hno2 hno3 cvd crv
 obtain⟨G,hG⟩:∃ G,fA (p.f.sub (F.num m.v.q))=G:=⟨_,rfl⟩
 obtain⟨G2,hG2⟩:∃ G,fA ((p.f.sub (F.num m.v.q)).scale (-1))=G:=⟨_,rfl⟩
 obtain⟨M1,hM1⟩:∃ M1,zJ ((-1:Int):Rat)=M1:=⟨_,rfl⟩
 rw[hG] at cs cm
 rw[hG2,hM1] at cm
 rw[hM1] at c1
 generalize s.proves (fA (m.form p.f)) m.pf=res' at *
 cbv
 refine u7 13 (by cbv) (by cbv) ?_
 cbv
 refine idx ?_
 cbv
 refine dA cnm ?_
 cbv
 refine dA cs ?_
 cbv
 refine zS (fun e5=>?_) (fun e5=>?_)
 ·rw[hform,if_pos e5,hG2] at cp
  cbv
  refine zO 3 (by cbv) ?_
  cbv
  refine dA c1 ?_
  cbv
  refine dA cm ?_
  cbv
  refine cA cp ?_
  cbv
  (refine rC ?_;cbv)
  exact lR
 ·rw[hform,if_neg (by rw[e5];decide),hG] at cp
  cbv
  refine cA cp ?_
  cbv
  (refine rC ?_;cbv)
  exact lR
theorem zQF (s:Scp)(hs:s.sz (2^20))(hok:∀ (i:Nat) (m:Lem),s.lems[i]?=some m→SumOk (s.pre i) m.pf):zE 16 [sv s] (.bool (fun _=>s.scopeB)):=by
 refine sF Tryz.f16 ?_
 have crv:=zFL s.q (hs.q.mono (by decide))
 have cF:=fun (d:Dec) (hd:d∈s.path)=>zSE s.q d (hs.q.mono (by decide)) ((hs.path.sz d hd).mono (by decide))
 have hcl:∀ i m,s.lems[i]?=some m→zE 67 [sv ⟨s.q,s.path,s.lems.take i⟩,lv' m] (.bool (fun _=>(s.pre i).lemB m)):=fun i m hm =>
  zNK (s.pre i) m (Scp.pre_sz hs i) (hs.lems.sz m (List.mem_of_getElem? hm)) (hok i m hm)
 have hr:s.scopeB=(s.q.valid && ((s.path.all fun d=>s.q.valid && d.fits s.q) && vY s 0 s.lems)):=rfl
 have hll:=hs.lems.len
 have hpl:=hs.path.len
 have hcons:∀ i m r,vY s i (m::r)=((s.pre i).lemB m && vY s (i+1) r):=fun _ _ _=>rfl
 obtain⟨LF,hLF⟩:∃ LF,vY s=LF:=⟨_,rfl⟩
 have hnil:∀ i,LF i []=true:=fun i=>by rw[←hLF];rfl
 obtain⟨P,hP⟩:∃ P:Dec→Bool,∀ d,P d=(s.q.valid && d.fits s.q):=⟨_,fun _=>rfl⟩
 rw[hLF] at hr hcons
 simp only[←hP] at hr cF
 obtain⟨LB',hLB⟩:∃ LB:Nat→Lem→Bool,∀ i m,LB i m=(s.pre i).lemB m:=⟨_,fun _ _=>rfl⟩
 simp only[←hLB] at hcons hcl
 generalize s.scopeB=res at *
 generalize s.q.valid=vd at *
 clear hs hok hLF hP hLB
 cbv
 refine cA crv ?_
 cbv
 refine zS (fun e1=>?_) (fun e1=>?_)
 rotate_left
 ·cbv
  (refine rC ?_;cbv)
  exact zN (by rw[hr,e1];rfl)
 rw[e1,Bool.true_and] at hr
 cbv
 refine zY (σ:=Nat) (fun i=>⟨[(1,.ptr 1 0),(3,.int .i64 (fun _=>(i:Int)))],[(1,.box (sc s))]⟩)
  (fun i=>i≤s.path.length∧res=((s.path.drop i).all P && LF 0 s.lems)) (fun i=>s.path.length - i) 0 ⟨by omega,hr⟩ (wkZ) ?_
 clear hr crv
 intro i hi
 obtain⟨h1,h2⟩:=hi
 cbv
 refine zH (fun h5=>?_) (fun h5=>?_)
 ·have hlt:=jL h5
  obtain⟨d,hd⟩:=yA hlt
  have cf:=cF d (List.mem_of_getElem? hd)
  rw[zZ hd,List.all_cons] at h2
  generalize P d=pd at *
  clear hcl hcons
  cbv
  refine zO 9 (by cbv) ?_
  cbv
  refine wL hd dO cH ?_
  cbv
  refine dA cf ?_
  cbv
  refine zS (fun e2=>?_) (fun e2=>?_)
  ·rw[e2,Bool.true_and] at h2
   cbv
   exact⟨zD om om,i+1,⟨om,h2⟩,om,wkZ⟩
  ·cbv
   (refine rC ?_;cbv)
   exact zN (by rw[h2,e2];rfl)
 have hi':=cG h5 h1
 rw[hi',List.drop_length,List.all_nil,Bool.true_and] at h2
 clear cF h5 h1 hi'
 cbv
 refine zY (σ:=Nat) (fun i=>⟨[(1,.ptr 1 0),(4,.int .i64 (fun _=>(i:Int)))],[(1,.box (sc s))]⟩)
  (fun i=>i≤s.lems.length∧res=LF i (s.lems.drop i)) (fun i=>s.lems.length - i) 0 ⟨by omega,h2⟩ (wkZ) ?_
 clear h2
 intro i hi
 obtain⟨h1,h2⟩:=hi
 cbv
 refine zH (fun h5=>?_) (fun h5=>?_)
 ·have hlt:=jL h5
  obtain⟨m,hm⟩:=yA hlt
  rw[zZ hm,hcons] at h2
  have cl:=hcl i m hm
  generalize LB' i m=b at *
  clear hcl hcons
  cbv
  refine u7 10 (by cbv) (by cbv) ?_
  cbv
  refine⟨w4 om om (by rw[zA];(try dsimp only [zG] at *);omega),xN wQ _,?_⟩
  cbv
  refine zO 8 (by cbv) ?_
  cbv
  refine wL hm wT wQ ?_
  cbv
  refine yU (by exact⟨⟨lR,lR,lR,lR,lR,lR,lR,lR,lR,lR,lR,zP (by simp [enc,List.map_take]),trivial⟩,okA,trivial⟩) cl rfl ?_
  cbv
  refine zS (fun e3=>?_) (fun e3=>?_)
  ·rw[e3,Bool.true_and] at h2
   cbv
   exact⟨zD om om,i+1,⟨om,h2⟩,om,wkZ⟩
  ·cbv
   (refine rC ?_;cbv)
   exact zN (by rw[h2,e3];rfl)
 ·have hi':=cG h5 h1
  rw[hi',List.drop_length,hnil] at h2
  cbv
  (refine rC ?_;cbv)
  exact yL h2
theorem iY (s:Scp)(unit:Int)(hs:Lsz (2^20) s.lems):zE 83 [sv s,.int .i64 (fun _=>unit)] (.tup [.int .i64 (fun _=>((s.best unit).1:Int)),.int .i64 (fun _=>((s.best unit).2:Int))]):=by
 refine sF Tryz.f83 ?_
 have hll:=hs.len
 obtain⟨⟨⟨gn,us,os⟩,⟨lo,hi,rows⟩,⟨ts,c1,c2,c3⟩⟩,path,L⟩:=s
 dsimp only at hs hll
 have cc:∀ m m',m∈L→m'∈L→zE 54 [rv m.v,rv m'.v] (.int .i64 (fun _=>kL m.v.q m'.v.q)):=fun m m' h h'=>s42 m.v m'.v ((hs.sz m h).mono (by decide)) ((hs.sz m' h').mono (by decide))
 have hst:∀ n m r b,gJ L unit n (m::r) b=gJ L unit (n+1) r (if m.u=unit then (if m.up=true then (if b.2=0∨kL m.v.q (wK L b.2)<0 then (b.1,n+1) else b) else (if b.1=0∨0<kL m.v.q (wK L b.1) then (n+1,b.2) else b)) else b):=fun _ _ _ _=>rfl
 have hva:∀ k m,L[k - 1]?=some m→wK L k=m.v.q:=fun k m h=>by unfold wK;rw[h];rfl
 have hni:∀ n b,gJ L unit n [] b=b:=fun _ _=>rfl
 have hgoal:((⟨⟨⟨gn,us,os⟩,⟨lo,hi,rows⟩,⟨ts,c1,c2,c3⟩⟩,path,L⟩:Scp).best unit)=gJ L unit 0 L (0,0):=rfl
 rw[hgoal]
 obtain⟨B,hB⟩:∃ B,gJ L unit 0 L (0,0)=B:=⟨_,rfl⟩
 rw[hB]
 obtain⟨B1,B2⟩:=B
 dsimp only
 generalize gJ L unit=BG at *
 clear hgoal
 cbv
 refine zY (σ:=Nat × Nat × Nat) (fun st=>⟨[(1,.int .i64 (fun _=>unit)),(2,.ptr 2 0),(6,.int .i64 (fun _=>(st.2.1:Int))),(7,.int .i64 (fun _=>(st.2.2:Int))),(8,.int .i64 (fun _=>((st.1+1:Nat):Int)))],[(2,.box [.int .i64 (fun _=>gn),alv us,alv os,rlv lo,rlv hi,alv rows,tsv ts,.bool (fun _=>c1),nat c2,nat c3,dlv path,llv L])]⟩)
  (fun st=>st.1≤L.length∧BG st.1 (L.drop st.1) st.2=(B1,B2)∧st.2.1≤L.length∧st.2.2≤L.length) (fun st=>L.length - st.1)
  (0,0,0) ⟨by show 0≤_;omega,hB,Nat.zero_le _,Nat.zero_le _⟩ (wkZ) ?_
 intro st hst'
 obtain⟨i,b1,b2⟩:=st
 obtain⟨h1,h2,h3,h4⟩:=hst'
 dsimp only at h1 h2 h3 h4
 clear hB
 cbv
 refine zH (fun h5=>?_) (fun h5=>?_)
 ·rw[zA] at h5
  have hlt:i<L.length:=by (try dsimp only [zG] at *);omega
  obtain⟨m,hm⟩:=yA hlt
  have hmem:=List.mem_of_getElem? hm
  rw[zZ hm,hst] at h2
  have idx:∀ {K:List PV→Prop},K (lc m)→IdxOk 6 (fun _=>enc lc L) (fun _=>((i+1:Nat):Int) - 1) K:=fun hK=>jW hm (by omega) wT wQ hK
  have hin:∀ k:Nat,k≤L.length→¬ k=0→∃ m',m'∈L∧wK L k=m'.v.q∧∀ {K:List PV→Prop},K (lc m')→IdxOk 6 (fun _=>enc lc L) (fun _=>(k:Int) - 1) K:=fun k hk h0=>by
   obtain⟨m',hm'⟩:=yA (l:=L) (i:=k - 1) (by omega)
   exact⟨m',List.mem_of_getElem? hm',hva k m' hm',fun hK=>jW hm' (by omega) wT wQ hK⟩
  clear hst hva
  cbv
  refine⟨zD om om,idx ?_⟩
  cbv
  refine zH (fun e1=>?_) (fun e1=>?_)
  ·rw[if_pos e1] at h2
   cbv
   refine zO 19 (by cbv) ?_
   cbv
   refine z4 (fun e2=>?_) (fun e2=>?_)
   ·rw[if_pos e2] at h2
    cbv
    refine zR (fun e3=>?_) (fun e3=>?_)
    ·have e3':b2=0:=by (try dsimp only [zG] at *);omega
     rw[if_pos (.inl e3')] at h2
     cbv
     refine zO 20 (by cbv) ?_
     cbv
     refine z4 (fun e4=>?_) (fun e4=>by rw[e2] at e4;cases e4)
     cbv
     exact⟨zD om om,(i+1,b1,(i+1)),⟨om,h2,(by show b1≤_;omega),(by show (i+1)≤_;omega)⟩,om,wkZ⟩
    have e3':¬ b2=0:=by (try dsimp only [zG] at *);omega
    obtain⟨m',hm',hv',idx'⟩:=hin b2 h4 e3'
    have cx:=cc m m' hmem hm'
    rw[hv'] at h2
    generalize kL m.v.q m'.v.q=x at *
    cbv
    refine⟨zD om om,idx' ?_⟩
    cbv
    refine dA cx ?_
    cbv
    refine zH (fun e5=>?_) (fun e5=>?_)
    ·rw[if_pos (.inr e5)] at h2
     cbv
     refine zO 20 (by cbv) ?_
     cbv
     refine z4 (fun e4=>?_) (fun e4=>by rw[e2] at e4;cases e4)
     cbv
     exact⟨zD om om,(i+1,b1,(i+1)),⟨om,h2,(by show b1≤_;omega),(by show (i+1)≤_;omega)⟩,om,wkZ⟩
    ·rw[if_neg (fun h=>h.elim e3' e5)] at h2
     cbv
     refine zO 20 (by cbv) ?_
     cbv
     refine z4 (fun e4=>?_) (fun e4=>by rw[e2] at e4;cases e4)
     cbv
     exact⟨zD om om,(i+1,b1,b2),⟨om,h2,(by show b1≤_;omega),(by show b2≤_;omega)⟩,om,wkZ⟩
   ·rw[if_neg (by rw[e2];decide)] at h2
    cbv
    refine zO 20 (by cbv) ?_
    cbv
    refine z4 (fun e4=>by rw[e2] at e4;cases e4) (fun e4=>?_)
    cbv
    refine zR (fun e3=>?_) (fun e3=>?_)
    ·have e3':b1=0:=by (try dsimp only [zG] at *);omega
     rw[if_pos (.inl e3')] at h2
     cbv
     exact⟨zD om om,(i+1,(i+1),b2),⟨om,h2,(by show (i+1)≤_;omega),(by show b2≤_;omega)⟩,om,wkZ⟩
    have e3':¬ b1=0:=by (try dsimp only [zG] at *);omega
    obtain⟨m',hm',hv',idx'⟩:=hin b1 h3 e3'
    have cx:=cc m m' hmem hm'
    rw[hv'] at h2
    generalize kL m.v.q m'.v.q=x at *
    cbv
    refine⟨zD om om,idx' ?_⟩
    cbv
    refine dA cx ?_
    cbv
    refine zH (fun e5=>?_) (fun e5=>?_)
    ·rw[if_pos (.inr e5)] at h2
     cbv
     exact⟨zD om om,(i+1,(i+1),b2),⟨om,h2,(by show (i+1)≤_;omega),(by show b2≤_;omega)⟩,om,wkZ⟩
    ·rw[if_neg (fun h=>h.elim e3' e5)] at h2
     cbv
     exact⟨zD om om,(i+1,b1,b2),⟨om,h2,(by show b1≤_;omega),(by show b2≤_;omega)⟩,om,wkZ⟩
  ·rw[if_neg e1] at h2
   cbv
   exact⟨zD om om,(i+1,b1,b2),⟨om,h2,(by show b1≤_;omega),(by show b2≤_;omega)⟩,om,wkZ⟩
 ·have hi:i=L.length:=by rw[zA] at h5;(try dsimp only [zG] at *);omega
  rw[hi,List.drop_length,hni] at h2
  obtain⟨q1,q2⟩:=Prod.mk.inj h2
  subst q1 q2
  cbv
  (refine rC ?_;cbv)
  exact okA
end Go.Proofs.YtgcpehdkdnkgeaaGreat
