/- A part of the proof: NtE, NtF, NtG. -/
import Derived.Test.YtfainocfaddbdaaGreatU15
import Derived.Test.YtfainocfaddbdaaGreatU16
set_option linter.all false
namespace Go.Proofs.YtfainocfaddbdaaGreat
open Go
set_option maxRecDepth 100000
theorem zIN {a b:Nat}(ha:a<4294967296)(hb:b<4294967296):ior .u32 (a:Int) (b:Int)=((a ||| b:Nat):Int):=by
 unfold ior;have h1:a ||| b<2^32:=c5 ha hb;have key:(BitVec.ofInt 32 (a:Int) ||| BitVec.ofInt 32 (b:Int)).toNat=a ||| b:=by rw[BitVec.toNat_or,BitVec.ofInt_natCast,BitVec.ofInt_natCast,BitVec.toNat_ofNat,BitVec.toNat_ofNat,wO (show a<2^32 from ha),wO (show b<2^32 from hb)]
 show IntKind.u32.wrap ((BitVec.ofInt 32 (a:Int) ||| BitVec.ofInt 32 (b:Int)).toNat:Int)=_;rw[key];have:=gW ((a ||| b:Nat):Int);unfold nx at this;rw[this];omega
theorem pH {a k c:Nat}(ha:a<2^k):a ||| (2^k*c)=a+2^k*c:=by rw[Nat.or_comm,mN,Nat.two_pow_add_eq_or_of_lt ha]
theorem aI {a k:Nat}(hk:k<64)(h:a*2^k<18446744073709551616):ishl .u64 (a:Int) (k:Int)=((a*2^k:Nat):Int):=by
 unfold ishl;have:=uJ ((a*2^k:Nat):Int);unfold nx at this;have e:((a:Int)*2^(min (k:Int).toNat IntKind.u64.bits))=((a*2^k:Nat):Int):=by
  (have:min (k:Int).toNat IntKind.u64.bits=k:=by simp[IntKind.bits];omega);rw[this]
  push_cast
  rfl
 rw[e,this];omega
theorem zY6 {els:List (List D)}{l:List UInt32}(he:els=lm l){i:Nat}{K:List PV->Prop}(j:Nat)(hk:i=j)(hj:j<l.length)(hK:K [.int .u32 (fun _=>((l.getD j 0).toNat:Int))]):ElOk 1 (fun _=>els) (fun _=>i) K:=by subst he;exact gH j hk hj hK
theorem s234 (a : List UInt32) (k : Nat) (ha : a.length < 2^40) (hk : k < 32) : Sound 172 [nat a, .int .i64 (fun _ => (k : Int))] [] [] (.osl 12 1 (fun _ => 0) (fun _ => a.length + 1)) [] [(12, .arr 1 (fun _ => lm (pad (val a * 2 ^ k) (a.length + 1))))] := by
  refine sF Tryz.f172 ?_
  cbv
  refine ⟨zC om om, yB om om, vF om om, ?_⟩
  cbv
  refine zX (σ := Nat × List UInt32) (fun s => ⟨[(0, nat a), (1, .int .i64 (fun _ => (k : Int))), (5, .osl 12 1 (fun _ => 0) (fun _ => a.length + 1)), (13, nat a), (14, .int .i64 (fun _ => (a.length : Int))), (15, .int .i64 (fun _ => (s.1 : Int)))], [(12, .arr 1 (fun _ => lm s.2))]⟩)
    (fun s => s.1 ≤ a.length ∧ s.2.length = a.length + 1 ∧ val s.2 = val (a.take s.1) * 2 ^ k ∧ (s.2.getD s.1 0).toNat < 2 ^ k ∧ ∀ j, s.1 < j → s.2.getD j 0 = 0) (fun s => a.length - s.1)
    (0, List.replicate (a.length + 1) 0) ⟨om, by simp, by simp [val, fG], by simp; exact aX oM, fun j _ => by simp only [yC, gC]; split <;> rfl⟩ (.le ?_ ?_ rfl) ?_
  · cbv
    exact ⟨lR, lR, zU rfl om, lR, zE om, lR, trivial⟩
  · cbv
    refine ⟨zB ?_, trivial⟩
    show List.replicate (((lm a).length : Int) + 1).toNat _ = _
    have : (((lm a).length : Int) + 1).toNat = a.length + 1 := by rw [zH]; omega
    rw [this]
    simp [lm, x6, toD]
  intro s hs
  obtain ⟨h1, h2, h3, h3', h4⟩ := hs
  generalize s.1 = i at *
  generalize s.2 = out at *
  cbv
  refine zD (fun h5 => ?_) (fun h5 => ?_)
  · cbv
    refine xO i om om ?_
    cbv
    refine ⟨v9 om, zQ om om, gH i (by simp) om ?_⟩
    cbv
    refine ⟨zQ om om, gH i (by simp) om ?_⟩
    cbv
    have hd := yL (a.getD i 0)
    have ho := yL (out.getD i 0)
    generalize hdd : (a.getD i 0).toNat = d at *
    generalize hoo : (out.getD i 0).toNat = o at *
    have hB : B = 4294967296 := rfl
    have hx : d * 2 ^ k < 4294967296 * 4294967296 := zBW oM (gB oM hk)
    have hT : ishl .u64 (nx .u64 (d : Int)) (k : Int) = ((d * 2 ^ k : Nat) : Int) := by
      rw [xW oM, aI oM oM]
    have hmod : ∃ c, (d * 2 ^ k) % B = 2 ^ k * c := by
      have hB2 : B = 2 ^ k * 2 ^ (32 - k) := by rw [← k8]; have : k + (32 - k) = 32 := by omega
                                                rw [this]; rfl
      rw [hB2, v5 d, Nat.mul_mod_mul_left]
      exact ⟨_, rfl⟩
    obtain ⟨e, he⟩ := hmod
    have hml : (d * 2 ^ k) % B < B := vR _ wI
    have hw : o + (d * 2 ^ k) % B < B := by
      rw [he, ← pH h3']
      exact c5 (n := 32) ho (by rw [← he]; exact hml)
    have hW : ior .u32 (o : Int) (nx .u32 (ishl .u64 (nx .u64 (d : Int)) (k : Int))) = ((o + (d * 2 ^ k) % B : Nat) : Int) := by
      have h8 : nx .u32 ((d * 2 ^ k : Nat) : Int) = (((d * 2 ^ k) % B : Nat) : Int) := by rw [gW, hB]; omega
      rw [hT, h8, zIN ho hml, he, pH h3']
    have hset1 := a6 out (j := i) om (UInt32.ofNat (o + (d * 2 ^ k) % B))
    have hels : (lm out).set (0 + (i : Int).toNat) [.int .u32 (ior .u32 (o : Int) (nx .u32 (ishl .u64 (nx .u64 (d : Int)) (k : Int))))] = lm (out.set i (UInt32.ofNat (o + (d * 2 ^ k) % B))) := by
      rw [hW]; exact fJ out (by simp) rfl hw
    have hlen1 : (out.set i (UInt32.ofNat (o + (d * 2 ^ k) % B))).length = a.length + 1 := by simpa using h2
    have hi1 : 0 + ((i : Int) + 1).toNat = i + 1 := by omega
    generalize hout1 : out.set i (UInt32.ofNat (o + (d * 2 ^ k) % B)) = out1 at *
    refine ⟨zC om om, v9 oM, zQ om om, zY6 hels (i + 1) hi1 om ?_⟩
    cbv
    have hz1 : out1.getD (i + 1) 0 = 0 := by rw [← hout1, aJ _ _ _ _ oM]; exact h4 _ oM
    have hset2 := a6 out1 (j := i + 1) om (UInt32.ofNat (d * 2 ^ k / B))
    have hq : d * 2 ^ k / B < 2 ^ k := by
      rw [cQ wI, v5]
      exact Nat.mul_lt_mul_of_pos_left hd (aX oM)
    have hqB : d * 2 ^ k / B < B := dF hq (show 2 ^ k < 2 ^ 32 from gB oM hk)
    refine ⟨zC om om, (i + 1, out1.set (i + 1) (UInt32.ofNat (d * 2 ^ k / B))), ⟨om, by simpa using hlen1, ?_, ?_, ?_⟩, om, .le ?_ ?_ rfl⟩
    · show val (out1.set (i + 1) _) = val (a.take (i + 1)) * 2 ^ k
      rw [zR a, hdd, w7, ← h3, vI]
      rw [hz1, x8, wO hqB] at hset2
      rw [x8, wO hw] at hset1
      have e1 : B ^ i * ((d * 2 ^ k) % B) + B ^ (i + 1) * (d * 2 ^ k / B) = B ^ i * (d * 2 ^ k) := by
        rw [xS, vI, ← yE, d6]
      rw [yE (B ^ i) o, hoo] at hset1
      simp only [UInt32.toNat_zero, zBY, gM] at hset2
      omega
    · show ((out1.set (i + 1) _).getD (i + 1) 0).toNat < 2 ^ k
      have : (out1.set (i + 1) (UInt32.ofNat (d * 2 ^ k / B))).getD (i + 1) 0 = UInt32.ofNat (d * 2 ^ k / B) := by
        have : i + 1 < out1.length := om
        simp [this]
      rw [this, x8, wO hqB]
      exact hq
    · intro j hj
      show (out1.set (i + 1) _).getD j 0 = 0
      have hj' : i + 1 < j := hj
      rw [aJ _ _ _ _ oM, ← hout1, aJ _ _ _ _ oM]
      exact h4 j oM
    · cbv
      exact ⟨lR, lR, lR, lR, lR, zE om, trivial⟩
    · cbv
      refine ⟨zB ?_, trivial⟩
      show ((lm out).set (0 + (i : Int).toNat) [.int .u32 (ior .u32 (o : Int) (nx .u32 (ishl .u64 (nx .u64 (d : Int)) (k : Int))))]).set (0 + ((i : Int) + 1).toNat) [.int .u32 (nx .u32 (ishr .u64 (ishl .u64 (nx .u64 (d : Int)) (k : Int)) 32))] = _
      rw [hels, hT, aH]
      exact fL out1 hi1 _
  · cbv
    have hip : i = a.length := om
    subst hip
    rw [yN (zV _)] at h3
    refine ⟨⟨_, _, id, .refl _, rfl, aG (lR), rfl, ?_, rfl, trivial⟩⟩
    exact ⟨⟨by rw [zMX h2 h3]; rfl, rfl⟩, trivial⟩
theorem zH4 {f : FuncId} {fn : Func} (hf : Pg.funcs[f]? = some fn) (hb : fn.body.isSome = true) (hname : (fn.name == "runtime.NumGoroutine") = false) {k k' : IntKind} {x z : Int} (h:∀ w,Calls Pg f #[.int k x] w fun e w'=>e=.returned (.int k' z)/\w'=w):zG f [.int k (fun _=>x)] (.int k' (fun _=>z)) where
 isf vals w:=by
  (obtain⟨c,hc⟩:=zQ0.1 hb;have hn : ¬ fn.name = "runtime.NumGoroutine" := by simpa using hname);simp[callFunc,hf,hn,hc]
 go w S β vals hbnd hobj hsz hrep:=by
  have h0:=w9 (hrep 0 (by simp));have hv:vals=#[.int k x]:=by
   apply Array.ext;{simpa using hsz}
   ·(intro i h1 h2;have:i=0:=by simp at h2;omega);subst this
    (have:vals.getD 0 undef=vals[0]:=by simp[h1]);rw[this] at h0
    simpa using h0
  subst hv;refine (h w).mono ?_;rintro e w' ⟨rfl,rfl⟩;exact⟨_,S,β,rfl,⟨zV _,rfl,rfl,rfl,fun _ _ _=>rfl,fun b vs T h=>⟨vs,h,rfl⟩,hbnd,fun _ _ _ h=>h,fun _ _ _ _ h=>h⟩,.c rfl (.int _ _),hobj,rfl,fun _ _ h=>by simp at h,fun n o b h=>by simp at h⟩
theorem yAP:Pg.funcs[161]?=some Tryz.f161:=by rw[vJ];rfl
theorem s228 (x:Nat)(hx:x<4294967296):zG 161 [.int .u32 (fun _=>(x:Int))] (.int .i64 (fun _=>(Lib.bitLen x:Int))):=by refine zH4 yAP rfl rfl fun w=>?_;rw[vJ];exact yAM (x:Int) w oM oM
theorem dY {x:Nat}(hx:x<4294967296):Lib.bitLen x<=32:=Lib.bitLen_le x 32 oM oM
theorem s233 (x:Nat)(hx:x<4294967296):zG 171 [.int .u32 (fun _=>(x:Int))] (.int .i64 (fun _=>32-(Lib.bitLen x:Int))):=by refine sF Tryz.f171 ?_;have:=dY hx;cbv;refine cA (s228 x hx) ?_;cbv;refine⟨zC om om,?_⟩;exact jB rfl (lR) rfl
def gK (n:Nat):Nat:=if n=0 then 0 else 32*((zF n).length-1)+Lib.bitLen ((zF n).getD ((zF n).length-1) 0).toNat
theorem iG {x:Nat}(h:x≠0)(hx:x<4294967296):0<Lib.bitLen x:=by rw[Lib.bitLen_half x h oM];omega
theorem zX2 {n:Nat}(h:n≠0):((zF n).getD ((zF n).length-1) 0).toNat≠0:=by have h1:=sI n;rw[pW (fun e=>h (xX.1 e))] at h1;intro e;have:(zF n).getD ((zF n).length-1) 0=0:=s9.1 e;rw[this] at h1;exact absurd h1 (by decide)
theorem nV {n:Nat}:gK n=0↔n=0:=by unfold gK;split;{simp_all};{rename_i h;have:=iG (zX2 h) (yL _);constructor <;> intro <;> omega}
theorem zSK {n:Nat}:gK n<=32*(zF n).length:=by
 unfold gK;split;{omega}
 ·(rename_i h;have h1:=dY (x:=((zF n).getD ((zF n).length-1) 0).toNat) (yL _);have:0<(zF n).length:=by rcases aY (zF n).length with e|e;exact absurd (xX.1 (jS e)) h;exact e);omega
theorem s202 (l:List UInt32)(hl:l.length<2^40):zG 136 [nat l] (.int .i64 (fun _=>(gK (val l):Int))):=by
 refine sF Tryz.f136 ?_;have hl':=xJ (zS l) hl;cbv;refine cA (cH l oM) ?_;cbv;refine zD (fun h=>?_) (fun h=>?_);{cbv;refine jB rfl ?_ rfl;have:val l=0:=xX.1 (jS om);exact zE (by rw[nV.2 this];rfl)}
 ·(cbv;have h0:val l≠0:=fun e=>h (by rw[e,limbs_zero];rfl);have hp:0<(zF (val l)).length:=om;refine⟨zC om om,zC om om,zC om om,xO ((zF (val l)).length-1) om om ?_⟩;cbv;have h3:=dY (x:=((zF (val l)).getD ((zF (val l)).length-1) 0).toNat) (yL _);have h5:gK (val l)=32*((zF (val l)).length-1)+Lib.bitLen ((zF (val l)).getD ((zF (val l)).length-1) 0).toNat:=by rw[gK,if_neg h0]);refine cA (s228 ((zF (val l)).getD ((zF (val l)).length-1) 0).toNat (yL _)) ?_
  generalize Lib.bitLen ((zF (val l)).getD ((zF (val l)).length-1) 0).toNat=t at *
  cbv;refine⟨zC om om,?_⟩;refine jB rfl ?_ rfl;exact zE (by rw[h5];(try dsimp only [zI] at *);simp only[zH];omega)
theorem zMI {a b:Nat}(ha:a<18446744073709551616)(hb:b<18446744073709551616):ior .u64 (a:Int) (b:Int)=((a ||| b:Nat):Int):=by
 unfold ior;have h1:a ||| b<2^64:=c5 ha hb;have key:(BitVec.ofInt 64 (a:Int) ||| BitVec.ofInt 64 (b:Int)).toNat=a ||| b:=by rw[BitVec.toNat_or,BitVec.ofInt_natCast,BitVec.ofInt_natCast,BitVec.toNat_ofNat,BitVec.toNat_ofNat,wO (show a<2^64 from ha),wO (show b<2^64 from hb)]
 show IntKind.u64.wrap ((BitVec.ofInt 64 (a:Int) ||| BitVec.ofInt 64 (b:Int)).toNat:Int)=_;rw[key];have:=uJ ((a ||| b:Nat):Int);unfold nx at this;rw[this];omega
theorem or2 {a b:Nat}(ha:a<4294967296)(hb:b<4294967296):ior .u64 (a:Int) (ishl .u64 (nx .u64 (b:Int)) 32)=((a+4294967296*b:Nat):Int):=by have h1:=aI (a:=b) (k:=32) oM oM;rw[xW oM];show ior .u64 (a:Int) (ishl .u64 (b:Int) ((32:Nat):Int))=_;rw[h1,zMI oM oM,v5 b,pH (k:=32) ha]
theorem or2' {a b:Nat}(ha:a<4294967296)(hb:b<4294967296):ior .u64 (ishl .u64 (b:Int) 32) (nx .u64 (a:Int))=((a+4294967296*b:Nat):Int):=by have h1:=aI (a:=b) (k:=32) oM oM;rw[xW oM];show ior .u64 (ishl .u64 (b:Int) ((32:Nat):Int)) (a:Int)=_;rw[h1,zMI oM oM,v5 b,Nat.or_comm,pH (k:=32) ha]
theorem len2 {n:Nat}:(zF n).length<=2↔n<B*B:=by
 constructor
 ·(intro h;have h1:=xZ (zF n);rw[zM] at h1;have:=gA wI h;have e:B^2=B*B:=by rw[xS,zFI]);omega
 {intro h;exact z7 (by rw[xS,zFI];exact h)}
theorem s231 (l:List UInt32)(hl:l.length<2^40):zG 169 [nat l] (.tup [.int .u64 (fun _=>((if val l<B*B then val l else 0:Nat):Int)),.bool (fun _=>decide (val l<B*B))]):=by
 refine sF Tryz.f169 ?_;have hl':=xJ (zS l) hl;cbv;refine cA (cH l oM) ?_;cbv;refine zD (fun h=>?_) (fun h=>?_)
 ·(cbv;have h1:¬val l<B*B:=fun h1=>by have:=len2.2 h1;(try dsimp only [zI] at *);simp only[zH] at h;omega);refine jB rfl ?_ rfl
  exact⟨zE (by rw[if_neg h1];rfl),z5 (decide_eq_false h1),trivial⟩
 ·have h2:(zF (val l)).length<=2:=om;have h1:val l<B*B:=len2.1 h2;have hv:=zM (val l);generalize zF (val l)=p at *
  cbv;refine zX (σ:=Nat) (fun s=>⟨[(0,nat p),(4,.int .u64 (fun _=>(val (p.take s):Int))),(12,nat p),(13,.int .i64 (fun _=>(p.length:Int))),(14,.int .i64 (fun _=>(s:Int)))],[]⟩)
   (fun s=>s<=p.length) (fun s=>p.length-s) 0 om (.le ?_ trivial rfl) ?_
  {cbv;exact⟨lR,lR,lR,zE om,lR,trivial⟩};intro i hi;cbv;refine zD (fun h5=>?_) (fun h5=>?_)
  ·cbv;refine xO i om om ?_;cbv;refine⟨zC om om,v9 om,zC om om,i+1,om,om,.le ?_ trivial rfl⟩;cbv;have hd:=yL (p.getD i 0);have hv1:=w5 p i;have hv2:=zR p i;refine⟨lR,zE ?_,lR,lR,zE om,trivial⟩;have hi2:i=0\/i=1:=om;simp only[B] at hd;rcases hi2 with rfl|rfl
   ·(rw[hv2];simp only[val,List.take_zero,mT,mS];have e:=or2 (a:=0) (b:=0) oM oM;have h9:ishl .u64 (nx .u64 ((p.getD 0 0).toNat:Int)) (32*((0:Nat):Int))=((p.getD 0 0).toNat:Int):=by have:=aI (a:=(p.getD 0 0).toNat) (k:=0) oM oM;rw[xW oM];simpa using this);show ior .u64 ((0:Nat):Int) (ishl .u64 (nx .u64 ((p.getD 0 0).toNat:Int)) (32*((0:Nat):Int)))=_;rw[h9,zMI oM oM];simp
   {rw[hv2];rw[zFI] at hv1 ⊢;have:=or2 (a:=val (p.take 1)) (b:=(p.getD 1 0).toNat) hv1 oM;show ior .u64 (val (p.take 1):Int) (ishl .u64 (nx .u64 ((p.getD 1 0).toNat:Int)) 32)=_;rw[this];rfl}
  {cbv;refine jB rfl ?_ rfl;have:i=p.length:=om;subst this;rw[yN (zV _)];exact⟨zE (by rw[if_pos h1,hv]),xQ (decide_eq_true h1),trivial⟩}
theorem zRB {bi b1 Y s:Nat}(hs:s<32)(hb:bi<B)(h1:b1=Y%B):(bi+B*Y)/2^s=((bi+B*b1)/2^s)%B+B*(Y/2^s):=by
 have hP:0<2^s:=iP s;have hB:B=2^s*2^(32-s):=by
  (rw[<-k8];have:s+(32-s)=32:=by omega);rw[this];rfl
 have key:∀ y,(bi+B*y)/2^s=(bi+B*(y%2^s))/2^s+B*(y/2^s):=by
  intro y;have e:bi+B*y=(bi+B*(y%2^s))+2^s*(B*(y/2^s)):=by
   have h:=d6 y (2^s)
   calc bi+B*y=bi+B*(y%2^s+2^s*(y/2^s)):=by rw[h]
    _=_:=by rw[yE,zBX];omega
  rw[e,zI0 _ _ hP]
 have hmod:b1%2^s=Y%2^s:=by rw[h1];exact Nat.mod_mod_of_dvd Y ⟨_,hB⟩
 have hlt:(bi+B*(Y%2^s))/2^s<B:=by rw[cQ hP];have h2:=vR Y hP;have h3:=wW B (show Y%2^s+1<=2^s from h2);rw[yE] at h3;omega
 rw[key Y,key b1,hmod,zNE,wO hlt]
theorem zR1 {a k:Nat}(hk:k<=64):ishr .u64 (a:Int) (k:Int)=((a/2^k:Nat):Int):=by
 unfold ishr;have:min (k:Int).toNat IntKind.u64.bits=k:=by simp[IntKind.bits];omega
 rw[this,zFJ _ (by exact Int.le_of_lt (Int.pow_pos (by decide)))]
 push_cast
 rfl
theorem jJ {a b:Nat}:irem (a:Int) (b:Int)=((a%b:Nat):Int):=by unfold irem;rfl
theorem jK {a b:Nat}:iquo (a:Int) (b:Int)=((a/b:Nat):Int):=by unfold iquo;rfl
theorem r6 {l:List UInt32}(j:Nat):(l.getD j 0).toNat=val (l.drop j)%B:=by rcases wE j l.length with h|h;{rw[kX h,zNE,wO (yL _)]};{rw[d5 h];simp[jT h,val]}
theorem zER (n k:Nat):val ((zF n).drop (k/32))/2^(k%32)=n/2^k:=by
 have e:val ((zF n).drop (k/32))=n/B^(k/32):=by
  rcases wE (zF n).length (k/32) with h|h;{rw[d5 oM];have h1:=xZ (zF n);rw[zM] at h1;have:=gA wI (pZ h);rw[oS oM];rfl}
  ·have h1:=iU (l:=zF n) (k/32) h;rw[zM] at h1;have h2:=w5 (zF n) (k/32);have hB:=aX (n:=k/32) wI;generalize B^(k/32)=M at *
   generalize val ((zF n).drop (k/32))=x at *
   rw[h1,zI0 _ _ hB,oS h2];omega
 rw[e,Nat.div_div_eq_div_mul];congr 1;show (2^32)^(k/32)*2^(k%32)=2^k;rw[<-iO,<-k8];congr 1;omega
theorem sN {z:Int}(h1:-9223372036854775808<=z)(h2:z<9223372036854775808):nx .i64 z=z:=by unfold nx;simp[IntKind.wrap,IntKind.signed,IntKind.bits];split <;> omega
theorem s237 (a:List UInt32)(k:Nat)(ha:a.length<2^40)(hk:k<=1048576):zG 175 [nat a,.int .i64 (fun _=>(k:Int))] (.tup [nat (zF (val a/2^k)),.int .i64 (fun _=>0)]):=by
 refine sF Tryz.f175 ?_;have ha':=xJ (zS a) ha;have hdp:=zER (val a) k;have hq:iquo (k:Int) 32=((k/32:Nat):Int):=jK (b:=32);have hr:irem (k:Int) 32=((k%32:Nat):Int):=jJ (b:=32);have hni:nx .i64 (iquo (k:Int) 32)=((k/32:Nat):Int):=by rw[hq,sN oM oM]
 cbv;refine yD (fun h=>om) (fun h=>?_);cbv;refine zD (fun h=>om) (fun h=>?_);cbv;refine cA (cH a oM) ?_;generalize hp:zF (val a)=p at *
 cbv;refine⟨uI oM,?_⟩;refine zD (fun h2=>?_) (fun h2=>?_)
 ·cbv
  (try dsimp only [zI] at *)
  rw[hni] at h2;refine jB rfl ?_ rfl;refine⟨xB ?_,lR,trivial⟩;rw[d5 (by rw[zH] at h2;omega)] at hdp;rw[<-hdp];simp[val,limbs_zero,lm]
 ·(try dsimp only [zI] at *)
  rw[hni] at h2;cbv;have hkl:k/32<p.length:=om;refine⟨uI oM,m5 (by (try dsimp only [zI] at *);rw[hni];omega) (by (try dsimp only [zI] at *);rw[hni,zH];omega) (Int.le_refl _),l5 p,?_⟩;have hsl:((lm p).take (((lm p).length:Nat):Int).toNat).drop (nx .i64 (iquo (k:Int) 32)).toNat=lm (p.drop (k/32)):=by rw[hni,xN,xN,yN (zV _),zOB]
  (try dsimp only [zI] at *)
  (rw[hsl];have hbl:(p.drop (k/32)).length<2^40:=by rw[kS];omega);generalize p.drop (k/32)=b at *
  cbv;refine⟨yB om om,vF om om,?_⟩;cbv;refine zX (σ:=Nat×List UInt32) (fun s=>⟨[(0,nat b),(1,.int .i64 (fun _=>(k:Int))),(6,.osl 29 1 (fun _=>0) (fun _=>b.length)),(30,nat b),(31,.int .i64 (fun _=>(b.length:Int))),(32,.int .i64 (fun _=>(s.1:Int)))],[(29,.arr 1 (fun _=>lm s.2))]⟩)
   (fun s=>s.1<=b.length/\s.2.length=b.length/\val (s.2.take s.1)+B^s.1*(val (b.drop s.1)/2^(k%32))=val b/2^(k%32)) (fun s=>b.length-s.1)
   (0,List.replicate b.length 0) ⟨om,by simp,by simp[val]⟩ (.le ?_ ?_ rfl) ?_
  {cbv;exact⟨lR,lR,zU rfl om,lR,zE om,lR,trivial⟩}
  ·(cbv;refine⟨zB ?_,trivial⟩;show List.replicate (((lm b).length:Int)).toNat _=_;have:(((lm b).length:Int)).toNat=b.length:=by rw[zH];omega);rw[this]
   simp[lm,x6,toD]
  intro s hs;obtain⟨h1,h3,h4⟩:=hs;generalize s.1=i at *
  generalize s.2=out at *
  cbv;refine zD (fun h5=>?_) (fun h5=>?_)
  ·cbv;refine xO i om om ?_;cbv;have hd:=yL (b.getD i 0);have hd1:=yL (b.getD (i+1) 0);have hks:k%32<32:=vR _ oM;refine⟨zC om om,?_⟩;refine gI (σ:=Unit) (fun _=>⟨[(0,nat b),(1,.int .i64 (fun _=>(k:Int))),(6,.osl 29 1 (fun _=>0) (fun _=>b.length)),(7,.int .i64 (fun _=>(i:Int))),(9,.int .u64 (fun _=>(((b.getD i 0).toNat+4294967296*(b.getD (i+1) 0).toNat:Nat):Int))),(30,nat b),(31,.int .i64 (fun _=>(b.length:Int))),(32,.int .i64 (fun _=>(i:Int)))],[(29,.arr 1 (fun _=>lm out))]⟩) (fun _=>True) (fun h6=>?_) (fun h6=>?_) ?_
   ·cbv;refine⟨zC om om,xO (i+1) om om ?_⟩;cbv;refine⟨v9 oM,(),trivial,.le ?_ ?_ rfl⟩
    ·cbv;refine⟨lR,lR,lR,lR,zE ?_,lR,lR,lR,trivial⟩
     (try dsimp only [zI] at *)
     rw[xW (n:=(b.getD i 0).toNat) (by simp only[B] at hd;omega)];exact or2 hd hd1
    {cbv;exact⟨zB rfl,trivial⟩}
   ·cbv;refine⟨(),trivial,.le ?_ ?_ rfl⟩
    ·cbv;refine⟨lR,lR,lR,lR,zE ?_,lR,lR,lR,trivial⟩;have:(b.getD (i+1) 0).toNat=0:=by have:b.length<=i+1:=om;simp[jT this]
     (try dsimp only [zI] at *)
     rw[xW (n:=(b.getD i 0).toNat) (by simp only[B] at hd;omega),this];rfl
    {cbv;exact⟨zB rfl,trivial⟩}
   intro _ _;have hY:(b.getD (i+1) 0).toNat=val (b.drop (i+1))%B:=r6 _;have hX:=kX (l:=b) (i:=i) om;have hst:=zRB (bi:=(b.getD i 0).toNat) hks hd hY;rw[<-hX] at hst;generalize hw:(b.getD i 0).toNat+4294967296*(b.getD (i+1) 0).toNat=w at *
   have hw':(b.getD i 0).toNat+B*(b.getD (i+1) 0).toNat=w:=hw;rw[hw'] at hst;cbv;refine⟨uI oM,v9 (by (try dsimp only [zI] at *);rw[hr];omega),zQ om om,gH i (by simp) om ?_⟩;cbv;refine⟨zC om om,(i+1,out.set i (UInt32.ofNat (w/2^(k%32)))),⟨om,by simpa using h3,?_⟩,om,.le ?_ ?_ rfl⟩;{show val ((out.set i _).take (i+1))+B^(i+1)*_=_;rw[uT _ om,x8,<-h4,hst,yE,xS,vI,alT9]};{cbv;exact⟨lR,lR,lR,lR,lR,zE om,trivial⟩}
   ·(cbv;refine⟨zB ?_,trivial⟩;have e:ishr .u64 (w:Int) (irem (k:Int) 32)=((w/2^(k%32):Nat):Int):=by rw[hr];exact zR1 oM);show (lm out).set (0+(i:Int).toNat) [.int .u32 (nx .u32 (ishr .u64 (w:Int) (irem (k:Int) 32)))]=_
    rw[e];exact fL out (by simp) _
  {cbv;have hi:i=b.length:=om;subst hi;refine aR (.trans (.le (ps':=⟨[(62,.osl 29 1 (fun _=>0) (fun _=>b.length))],[(29,.arr 1 (fun _=>lm out))]⟩) ?_ ?_ rfl) (.frz 29 rfl rfl ?_ ?_)) rfl (by refine⟨zY ?_,trivial⟩;exact yN (by simp[zH] <;> omega)) (cH out oM) rfl ?_;{cbv;exact okA};{cbv;exact⟨zB rfl,trivial⟩};{cbv;exact⟨yG (by simp[zH] <;> omega),trivial⟩};{exact trivial};cbv;refine jB rfl ?_ rfl;refine⟨zY ?_,lR,trivial⟩;rw[yN oM,d5 (zV _)] at h4;congr 2;rw[<-hdp,<-h4];simp[val]}
theorem zBK (n:Nat)(m:Int)(h:m=n):(List.replicate m.toNat (x6 [.int .u32 (fun _=>0)]):List (List D))=lm (List.replicate n 0):=by subst h;simp[lm,x6,toD]
theorem iT {l:List UInt32}{i:Nat}(h:i<l.length)(x:UInt32):val ((l.set i x).drop i)=x.toNat+B*val (l.drop (i+1)):=by have:=kX (l:=l.set i x) (i:=i) (by simpa using h);rw[this,List.drop_set_of_lt oM];simp[h]
theorem s232 (a:List UInt32)(d:Nat)(ha:a.length<2^40)(hd:d<B)(hd0:0<d):zG 170 [nat a,.int .u32 (fun _=>(d:Int))] (.tup [nat (zF (val a/d)),nat (zF (val a%d))]):=by
 have hdd:nx .u64 (d:Int)=(d:Int):=xW (by simp only[B] at hd;omega);refine sF Tryz.f170 ?_;cbv;refine⟨yB om om,vF om om,?_⟩;cbv;refine⟨zC om om,?_⟩;refine zX (σ:=Nat×Nat×List UInt32) (fun s=>⟨[(0,nat a),(1,.int .u32 (fun _=>(d:Int))),(6,.osl 11 1 (fun _=>0) (fun _=>a.length)),(7,.int .u64 (fun _=>(s.2.1:Int))),(8,.int .i64 (fun _=>(s.1:Int)-1))],[(11,.arr 1 (fun _=>lm s.2.2))]⟩)
  (fun s=>s.1<=a.length/\s.2.1<d/\s.2.2.length=a.length/\val (a.drop s.1)=d*val (s.2.2.drop s.1)+s.2.1) (fun s=>s.1)
  (a.length,0,List.replicate a.length 0) ⟨om,hd0,by simp,by simp[val]⟩ (.le ?_ ?_ rfl) ?_
 {cbv;exact⟨lR,lR,zU rfl om,lR,zE om,trivial⟩};{cbv;exact⟨zB (zBK a.length _ om),trivial⟩};intro s hs;obtain⟨h1,h2,h3,h4⟩:=hs;generalize s.1=n at *
 generalize s.2.1=r at *
 generalize s.2.2=out at *
 cbv;refine zD (fun h5=>?_) (fun h5=>?_)
 ·(try dsimp only [zI] at *)
  obtain⟨m,rfl⟩:∃ m,n=m+1:=⟨n-1,by omega⟩;cbv;have hx:=yL (a.getD m 0);refine⟨v9 oM,xO m om om ?_⟩;have hX:=kX (l:=a) (i:=m) om;generalize hxx:(a.getD m 0).toNat=x at *
  (have hT:ior .u64 (ishl .u64 (r:Int) 32) (nx .u64 (x:Int))=((x+B*r:Nat):Int):=by have:=or2' (a:=x) (b:=r) hx (by simp only[B] at hd;omega);exact this);have hlt:x+B*r<d*B:=by have:=wW B (show r+1<=d from h2);rw[yE,v5 B d] at this;omega
  (have hq:(x+B*r)/d<B:=by rw[cQ hd0,v5 B d];exact hlt);have hdB:d*B<=B*B:=qE B (pZ hd)
  have hr:=vR (x+B*r) hd0;have hdm:=Nat.div_add_mod (x+B*r) d;generalize hqq:(x+B*r)/d=q at *
  generalize hrr:(x+B*r)%d=r' at *
  (have hQ:iquo (ior .u64 (ishl .u64 (r:Int) 32) (nx .u64 (x:Int))) (nx .u64 (d:Int))=(q:Int):=by rw[hT,hdd,jK,hqq]);have hR:irem (ior .u64 (ishl .u64 (r:Int) 32) (nx .u64 (x:Int))) (nx .u64 (d:Int))=(r':Int):=by rw[hT,hdd,jJ,hrr]
  cbv;refine⟨uI (by (try dsimp only [zI] at *);rw[hdd];omega),zQ om om,gH m om om ?_⟩;cbv;refine⟨uI (by (try dsimp only [zI] at *);rw[hdd];omega),zC om om,(m,r',out.set m (UInt32.ofNat q)),⟨om,hr,by simpa using h3,?_⟩,om,.le ?_ ?_ rfl⟩;{show val (a.drop m)=d*val ((out.set m _).drop m)+r';rw[hX,h4,iT om,x8,wO hq,yE B,yE d,zBX B d];have:x+B*r=d*q+r':=hdm.symm;omega};{cbv;exact⟨lR,lR,lR,zE hR,zE om,trivial⟩}
  ·cbv;refine⟨zB (fJ out (j:=m) ?_ ?_ hq),trivial⟩
   ·(try dsimp only [zI] at *);omega
   {show nx .u32 (nx .u64 (iquo (ior .u64 (ishl .u64 (r:Int) 32) (nx .u64 (x:Int))) (nx .u64 (d:Int))))=(q:Int);simp only[B] at hq;rw[hQ,xW oM,gW];omega}
 ·cbv;have hn:n=0:=om;subst hn;refine aR (.trans (.le (ps':=⟨[(7,.int .u64 (fun _=>(r:Int))),(39,.osl 11 1 (fun _=>0) (fun _=>a.length))],[(11,.arr 1 (fun _=>lm out))]⟩) ?_ ?_ rfl) (.frz 11 rfl rfl ?_ ?_)) rfl (by refine⟨zY ?_,trivial⟩;exact yN (by simp[zH] <;> omega)) (cH out oM) rfl ?_;{cbv;exact okA};{cbv;exact⟨zB rfl,trivial⟩};{cbv;exact⟨yG (by simp[zH] <;> omega),trivial⟩};{exact trivial};cbv;have hrB:r<B*B:=by have:=hd;simp only[B] at *;omega
  (refine cA (s211 r hrB) ?_;cbv;refine jB rfl ?_ rfl;simp only[uS] at h4;have e1:val a/d=val out:=(Nat.div_eq_of_lt_le (by rw[v5];omega) (by rw[v5,yE];omega));have e2:val a%d=r:=by rw[h4,Nat.mul_add_mod];exact wO h2);exact⟨zY (by rw[e1]),zY (by rw[e2]),trivial⟩
theorem zR3 {pre x post:List UInt32}{j:Nat}(h:j<x.length):(pre++(x++post)).getD (pre.length+j) 0=x.getD j 0:=by simp[List.getElem?_append,h,show ¬pre.length+j<pre.length by omega]
theorem aM {pre x post:List UInt32}{i:Nat}{K:List PV->Prop}(j:Nat)(hi:i=pre.length+j)(hj:j<x.length)(hK:K [.int .u32 (fun _=>((x.getD j 0).toNat:Int))]):ElOk 1 (fun _=>lm (pre++(x++post))) (fun _=>i) K:=by refine gH (pre.length+j) hi (by simp;omega) ?_;rw[zR3 hj];exact hK
theorem zT7 {rs:List ResultVar}{r:PV}{ps:PS}{l:List PV}{n:Nat}{o:Obj'}(h1:b7 ps rs=some l)(h2:les (eI l) (ren id r))(h3:lv r=true)(h4:yA ps.objs n=some o)(h5:c6 o=true)(h6:Nat.ble 1000000 n=true):RetOk rs r [(n,o)] [] ps :=
 ⟨ps,l,id,.refl ps,h1,aG h2,h3,⟨⟨by rw[zJP];exact h4,h5⟩,trivial⟩,rfl,⟨rfl,Nat.le_of_ble_eq_true h6⟩,trivial⟩
theorem zTA {rs:List ResultVar}{r:PV}{ps ps':PS}{l:List PV}{n:Nat}{o:Obj'}(hw:Wk ps ps')(h1:b7 ps' rs=some l)(h2:les (eI l) (ren id r))(h3:lv r=true)(h4:yA ps'.objs n=some o)(h5:c6 o=true)(h6:Nat.ble 1000000 n=true):RetOk rs r [(n,o)] [] ps :=
 ⟨ps',l,id,hw,h1,aG h2,h3,⟨⟨by rw[zJP];exact h4,h5⟩,trivial⟩,rfl,⟨rfl,Nat.le_of_ble_eq_true h6⟩,trivial⟩
theorem zP5 {v1 v2 u2 q r:Nat}(hr:r<B)(hv:0<v1)(h:¬(B<=q\/r*B+u2<q*v2)):nZ v1 v2 u2 q r=q:=by rw[nZ,dif_neg oM,if_neg h]
theorem zSA {v1 v2 u2 q r:Nat}(hr:r<B)(hv:0<v1)(h:B<=q\/r*B+u2<q*v2)(h2:B<=r+v1):nZ v1 v2 u2 q r=q-1:=by rw[nZ,dif_neg oM,if_pos h,if_pos h2]
theorem zV2 {v1 v2 u2 q r:Nat}(hr:r<B)(hv:0<v1)(h:B<=q\/r*B+u2<q*v2)(h2:¬B<=r+v1):nZ v1 v2 u2 q r=nZ v1 v2 u2 (q-1) (r+v1):=by rw[nZ,dif_neg oM,if_pos h,if_neg h2]
abbrev kx (pre x post:List UInt32):List (Nat×Obj'):=[(1000000,.arr 1 (fun _=>lm (pre++(x++post))))]
theorem s236 (pre x post v:List UInt32)(n:Nat)(hx:x.length=n+3)(hv:v.length=n+2)(hn:n<2^40)(hp:pre.length<2^40)(hnorm:B<=2*(v.getD (n+1) 0).toNat)(hle:(x.getD (n+2) 0).toNat<=(v.getD (n+1) 0).toNat):Sound 174 [.osl 1000000 1 (fun _=>pre.length) (fun _=>n+3),nat v] (kx pre x post) [] (.int .u64 (fun _=>((nZ (v.getD (n+1) 0).toNat (v.getD n 0).toNat (x.getD n 0).toNat (((x.getD (n+2) 0).toNat*B+(x.getD (n+1) 0).toNat)/(v.getD (n+1) 0).toNat) (((x.getD (n+2) 0).toNat*B+(x.getD (n+1) 0).toNat)%(v.getD (n+1) 0).toNat):Nat):Int))) (kx pre x post) []:=by
 refine sF Tryz.f174 ?_;have hu0:=yL (x.getD (n+2) 0);have hu1:=yL (x.getD (n+1) 0);have hu2:=yL (x.getD n 0);have hv1:=yL (v.getD (n+1) 0);have hv2:=yL (v.getD n 0);have hB:B=4294967296:=rfl;generalize hxa:(x.getD (n+2) 0).toNat=xa at *
 generalize hxb:(x.getD (n+1) 0).toNat=xb at *
 generalize hxc:(x.getD n 0).toNat=xc at *
 generalize hva:(v.getD (n+1) 0).toNat=va at *
 generalize hvb:(v.getD n 0).toNat=vb at *
 have hT:ior .u64 (ishl .u64 (nx .u64 (xa:Int)) 32) (nx .u64 (xb:Int))=((xa*B+xb:Nat):Int):=by rw[xW (n:=xa) oM,or2' hu1 hu0,v5 xa,mN];rfl
 have hva0:0<va:=by omega
 have hq0:(xa*B+xb)/va<=B+1:=by
  (have:xa*B+xb<(B+2)*va:=by have h1:=qE B hle;rw[w7,v5 B va];omega);have:=(cQ hva0).2 this;omega
 have hr0:(xa*B+xb)%va<B:=dF (vR _ hva0) hv1;generalize hQ:nZ va vb xc ((xa*B+xb)/va) ((xa*B+xb)%va)=Q;have hq':iquo ((xa*B+xb:Nat):Int) (va:Int)=(((xa*B+xb)/va:Nat):Int):=jK;have hr':irem ((xa*B+xb:Nat):Int) (va:Int)=(((xa*B+xb)%va:Nat):Int):=jJ;generalize hq0':(xa*B+xb)/va=q0 at *
 generalize hr0':(xa*B+xb)%va=r0 at *
 generalize (xa*B+xb:Nat)=top at *
 have hvn:nx .u64 (va:Int)=(va:Int):=xW oM;cbv;refine zT 13 (by cbv) ?_;cbv;refine⟨zQ om om,aM (n+2) om om ?_⟩;cbv;refine⟨v9 oM,zC om om,zQ om om,aM (n+1) om om ?_⟩;cbv;refine zT 18 (by cbv) ?_;cbv;refine⟨zC om om,xO (n+1) om om ?_⟩;cbv;refine⟨uI (by (try dsimp only [zI] at *);rw[hva,hvn];omega),zC om om,xO (n+1) om om ?_⟩;cbv;refine⟨uI (by (try dsimp only [zI] at *);rw[hva,hvn];omega),?_⟩;refine zX (σ:=Nat×Nat) (fun s=>⟨[(0,.osl 1000000 1 (fun _=>pre.length) (fun _=>n+3)),(1,nat v),(5,.int .i64 (fun _=>((n+2:Nat):Int))),(7,.int .u64 (fun _=>(s.1:Int))),(8,.int .u64 (fun _=>(s.2:Int)))],kx pre x post⟩)
  (fun s=>s.1<=B+1/\s.2<B/\nZ va vb xc s.1 s.2=Q) (fun s=>B-s.2)
  (q0,r0) ⟨hq0,hr0,hQ⟩ (.le ?_ ?_ rfl) ?_
 ·cbv;refine⟨lR,lR,zE om,zE ?_,zE ?_,trivial⟩
  ·(try dsimp only [zI] at *)
   rw[hxa,hxb,hva,hT,hvn,hq',xW oM]
  ·(try dsimp only [zI] at *)
   rw[hxa,hxb,hva,hT,hvn,hr']
 {cbv;exact⟨zB rfl,trivial⟩};intro s hs;obtain⟨h1,h2,h3⟩:=hs;generalize s.1=q at *
 generalize s.2=r at *
 have hround:(B<=q\/r*B+xc<q*vb)->0<q:=by rintro (h|h);{omega};{rcases aY q with e|e;{rw[e,dN] at h;omega};{exact e}}
 have hq1:0<q->nx .u64 ((q:Int)-1)=((q-1:Nat):Int):=fun h=>by rw[uJ];omega
 have hr1:nx .u64 ((r:Int)+(va:Int))=((r+va:Nat):Int):=by rw[uJ];omega
 cbv;refine zT 22 (by cbv) ?_;cbv;have fin:(B<=q\/r*B+xc<q*vb)->∀ (K:Prop),(B<=r+va->Q=q-1->K)->(¬B<=r+va->(nZ va vb xc (q-1) (r+va)=Q/\q-1<=B+1/\r+va<B/\B-(r+va)<B-r)->K)->K:=by intro hc K k1 k2;by_cases h4:B<=r+va;{exact k1 h4 (by rw[<-h3,zSA h2 hva0 hc h4])};{exact k2 h4 ⟨by rw[<-h3,zV2 h2 hva0 hc h4],by omega,by omega,by omega⟩}
 refine yD (fun h4=>?_) (fun h4=>?_)
 ·(have hc:B<=q\/r*B+xc<q*vb:=.inl (by rw[hB];exact om);cbv;refine⟨zC om om,xO (n+1) om om ?_⟩;have hz:nx .u64 ((r:Int)+nx .u64 (((v.getD (n+1) 0).toNat:Nat):Int))=((r+va:Nat):Int):=by rw[hva,hvn];exact hr1);have hz2:=hq1 (hround hc)
  cbv
  (try dsimp only [zI] at *)
  refine fin hc _ (fun h6 h7=>?_) (fun h6 h7=>?_);{refine zD (fun h8=>?_) (fun h8=>absurd h8 (by rw[hz];omega));cbv;exact zT7 rfl (zE (by rw[h7];exact hz2)) rfl rfl rfl rfl};{refine zD (fun h8=>absurd h8 (by rw[hz];omega)) (fun h8=>?_);cbv;refine⟨(q-1,r+va),⟨h7.2.1,h7.2.2.1,h7.1⟩,h7.2.2.2,.le ?_ ?_ rfl⟩;{cbv;exact⟨lR,lR,lR,zE hz2,zE hz,trivial⟩};{cbv;exact⟨zB rfl,trivial⟩}}
 ·(cbv;refine⟨zC om om,xO n om om ?_⟩;cbv;refine⟨v9 om,zC om om,zQ om om,aM n om om ?_⟩;have hq2:q<B:=by rw[hB];exact om);have hm1:nx .u64 ((q:Int)*nx .u64 (((v.getD n 0).toNat:Nat):Int))=((q*vb:Nat):Int):=by rw[hvb,xW (n:=vb) oM];have:q*vb<4294967296*4294967296:=zBW oM oM;exact xW oM
  (have hm2:ior .u64 (ishl .u64 (r:Int) 32) (nx .u64 (((x.getD n 0).toNat:Nat):Int))=((r*B+xc:Nat):Int):=by rw[hxc];have:=or2' (a:=xc) (b:=r) hu2 h2;rw[this,v5 r,mN];rfl);cbv
  (try dsimp only [zI] at *)
  refine zD (fun h5=>?_) (fun h5=>?_)
  ·(have hc:B<=q\/r*B+xc<q*vb:=.inr (by rw[hm1,hm2] at h5;omega);cbv;refine⟨zC om om,xO (n+1) om om ?_⟩;have hz:nx .u64 ((r:Int)+nx .u64 (((v.getD (n+1) 0).toNat:Nat):Int))=((r+va:Nat):Int):=by rw[hva,hvn];exact hr1);have hz2:=hq1 (hround hc)
   cbv
   (try dsimp only [zI] at *)
   refine fin hc _ (fun h6 h7=>?_) (fun h6 h7=>?_);{refine zD (fun h8=>?_) (fun h8=>absurd h8 (by rw[hz];omega));cbv;exact zT7 rfl (zE (by rw[h7];exact hz2)) rfl rfl rfl rfl};{refine zD (fun h8=>absurd h8 (by rw[hz];omega)) (fun h8=>?_);cbv;refine⟨(q-1,r+va),⟨h7.2.1,h7.2.2.1,h7.1⟩,h7.2.2.2,.le ?_ ?_ rfl⟩;{cbv;exact⟨lR,lR,lR,zE hz2,zE hz,trivial⟩};{cbv;exact⟨zB rfl,trivial⟩}}
  ·(have hc:¬(B<=q\/r*B+xc<q*vb):=by rw[hm1,hm2] at h5;omega);have hs:=zP5 h2 hva0 hc
   cbv;exact zT7 rfl (zE (by rw[<-h3,hs])) rfl rfl rfl rfl
end Go.Proofs.YtfainocfaddbdaaGreat
