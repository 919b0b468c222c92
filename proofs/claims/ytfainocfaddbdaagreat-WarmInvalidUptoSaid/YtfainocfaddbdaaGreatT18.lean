/- A part of the proof: NtE, NtF, NtG. -/
import Derived.Test.YtfainocfaddbdaaGreatT15
import Derived.Test.YtfainocfaddbdaaGreatT16
import Derived.Test.YtfainocfaddbdaaGreatT17
set_option linter.all false
namespace Go.Proofs.YtfainocfaddbdaaGreat
open Go
set_option maxRecDepth 100000
theorem zB4 {a b:Nat}(ha:a<4294967296)(hb:b<4294967296):ior .u32 (a:Int) (b:Int)=((a ||| b:Nat):Int):=by
 unfold ior;have h1:a ||| b<2^32:=Nat.or_lt_two_pow ha hb;have key:(BitVec.ofInt 32 (a:Int) ||| BitVec.ofInt 32 (b:Int)).toNat=a ||| b:=by rw[BitVec.toNat_or,BitVec.ofInt_natCast,BitVec.ofInt_natCast,BitVec.toNat_ofNat,BitVec.toNat_ofNat,Nat.mod_eq_of_lt (show a<2^32 from ha),Nat.mod_eq_of_lt (show b<2^32 from hb)]
 show IntKind.u32.wrap ((BitVec.ofInt 32 (a:Int) ||| BitVec.ofInt 32 (b:Int)).toNat:Int)=_;rw[key];have:=qY ((a ||| b:Nat):Int);unfold nx at this;rw[this];omega
theorem cI {a k c:Nat}(ha:a<2^k):a ||| (2^k*c)=a+2^k*c:=by rw[Nat.or_comm,Nat.add_comm,Nat.two_pow_add_eq_or_of_lt ha]
theorem dW {a k:Nat}(hk:k<64)(h:a*2^k<18446744073709551616):ishl .u64 (a:Int) (k:Int)=((a*2^k:Nat):Int):=by
 unfold ishl;have:=wT ((a*2^k:Nat):Int);unfold nx at this;have e:((a:Int)*2^(min (k:Int).toNat IntKind.u64.bits))=((a*2^k:Nat):Int):=by
  (have:min (k:Int).toNat IntKind.u64.bits=k:=by simp[IntKind.bits];omega);rw[this]
  push_cast
  rfl
 rw[e,this];omega
theorem zN2 {els:List (List D)}{l:List UInt32}(he:els=lm l){i:Nat}{K:List PV->Prop}(j:Nat)(hk:i=j)(hj:j<l.length)(hK:K [.int .u32 (fun _=>((l.getD j 0).toNat:Int))]):ElOk 1 (fun _=>els) (fun _=>i) K:=by subst he;exact qI j hk hj hK
theorem s234 (a : List UInt32) (k : Nat) (ha : a.length < 2^40) (hk : k < 32) : Sound 172 [nat a, .int .i64 (fun _ => (k : Int))] [] [] (.osl 12 1 (fun _ => 0) (fun _ => a.length + 1)) [] [(12, .arr 1 (fun _ => lm (pad (val a * 2 ^ k) (a.length + 1))))] := by
  refine sF Tryz.f172 ?_
  cbv
  refine ⟨zE om om, yJ om om, wM om om, ?_⟩
  cbv
  refine yB (σ := Nat × List UInt32) (fun s => ⟨[(0, nat a), (1, .int .i64 (fun _ => (k : Int))), (5, .osl 12 1 (fun _ => 0) (fun _ => a.length + 1)), (13, nat a), (14, .int .i64 (fun _ => (a.length : Int))), (15, .int .i64 (fun _ => (s.1 : Int)))], [(12, .arr 1 (fun _ => lm s.2))]⟩)
    (fun s => s.1 ≤ a.length ∧ s.2.length = a.length + 1 ∧ val s.2 = val (a.take s.1) * 2 ^ k ∧ (s.2.getD s.1 0).toNat < 2 ^ k ∧ ∀ j, s.1 < j → s.2.getD j 0 = 0) (fun s => a.length - s.1)
    (0, List.replicate (a.length + 1) 0) ⟨om, by simp, by simp [val, kH], by simp; exact Nat.pow_pos (by omega), fun j _ => by simp only [List.getD_eq_getElem?_getD, List.getElem?_replicate]; split <;> rfl⟩ (.le ?_ ?_ rfl) ?_
  · cbv
    exact ⟨lR, lR, z5 rfl om, lR, zC om, lR, trivial⟩
  · cbv
    refine ⟨zA ?_, trivial⟩
    show List.replicate (((lm a).length : Int) + 1).toNat _ = _
    have : (((lm a).length : Int) + 1).toNat = a.length + 1 := by rw [zG]; omega
    rw [this]
    simp [lm, xM, toD]
  intro s hs
  obtain ⟨h1, h2, h3, h3', h4⟩ := hs
  generalize s.1 = i at *
  generalize s.2 = out at *
  cbv
  refine zF (fun h5 => ?_) (fun h5 => ?_)
  · cbv
    refine y5 i om om ?_
    cbv
    refine ⟨wP om, zQ om om, qI i (by simp) om ?_⟩
    cbv
    refine ⟨zQ om om, qI i (by simp) om ?_⟩
    cbv
    have hd := yD (a.getD i 0)
    have ho := yD (out.getD i 0)
    generalize hdd : (a.getD i 0).toNat = d at *
    generalize hoo : (out.getD i 0).toNat = o at *
    have hB : B = 4294967296 := rfl
    have hx : d * 2 ^ k < 4294967296 * 4294967296 := Nat.mul_lt_mul'' (by omega) (Nat.pow_lt_pow_right (by omega) hk)
    have hT : ishl .u64 (nx .u64 (d : Int)) (k : Int) = ((d * 2 ^ k : Nat) : Int) := by
      rw [xG (by omega), dW (by omega) (by omega)]
    have hmod : ∃ c, (d * 2 ^ k) % B = 2 ^ k * c := by
      have hB2 : B = 2 ^ k * 2 ^ (32 - k) := by rw [← Nat.pow_add]; have : k + (32 - k) = 32 := by omega
                                                rw [this]; rfl
      rw [hB2, Nat.mul_comm d, Nat.mul_mod_mul_left]
      exact ⟨_, rfl⟩
    obtain ⟨e, he⟩ := hmod
    have hml : (d * 2 ^ k) % B < B := Nat.mod_lt _ xN
    have hw : o + (d * 2 ^ k) % B < B := by
      rw [he, ← cI h3']
      exact Nat.or_lt_two_pow (n := 32) ho (by rw [← he]; exact hml)
    have hW : ior .u32 (o : Int) (nx .u32 (ishl .u64 (nx .u64 (d : Int)) (k : Int))) = ((o + (d * 2 ^ k) % B : Nat) : Int) := by
      have h8 : nx .u32 ((d * 2 ^ k : Nat) : Int) = (((d * 2 ^ k) % B : Nat) : Int) := by rw [qY, hB]; omega
      rw [hT, h8, zB4 ho hml, he, cI h3']
    have hset1 := fT out (j := i) om (UInt32.ofNat (o + (d * 2 ^ k) % B))
    have hels : (lm out).set (0 + (i : Int).toNat) [.int .u32 (ior .u32 (o : Int) (nx .u32 (ishl .u64 (nx .u64 (d : Int)) (k : Int))))] = lm (out.set i (UInt32.ofNat (o + (d * 2 ^ k) % B))) := by
      rw [hW]; exact kK out (by simp) rfl hw
    have hlen1 : (out.set i (UInt32.ofNat (o + (d * 2 ^ k) % B))).length = a.length + 1 := by simpa using h2
    have hi1 : 0 + ((i : Int) + 1).toNat = i + 1 := by omega
    generalize hout1 : out.set i (UInt32.ofNat (o + (d * 2 ^ k) % B)) = out1 at *
    refine ⟨zE om om, wP (by omega), zQ om om, zN2 hels (i + 1) hi1 om ?_⟩
    cbv
    have hz1 : out1.getD (i + 1) 0 = 0 := by rw [← hout1, fI _ _ _ _ (by omega)]; exact h4 _ (by omega)
    have hset2 := fT out1 (j := i + 1) om (UInt32.ofNat (d * 2 ^ k / B))
    have hq : d * 2 ^ k / B < 2 ^ k := by
      rw [Nat.div_lt_iff_lt_mul xN, Nat.mul_comm]
      exact Nat.mul_lt_mul_of_pos_left hd (Nat.pow_pos (by omega))
    have hqB : d * 2 ^ k / B < B := Nat.lt_trans hq (show 2 ^ k < 2 ^ 32 from Nat.pow_lt_pow_right (by omega) hk)
    refine ⟨zE om om, (i + 1, out1.set (i + 1) (UInt32.ofNat (d * 2 ^ k / B))), ⟨om, by simpa using hlen1, ?_, ?_, ?_⟩, om, .le ?_ ?_ rfl⟩
    · show val (out1.set (i + 1) _) = val (a.take (i + 1)) * 2 ^ k
      rw [zR a, hdd, Nat.add_mul, ← h3, Nat.mul_assoc]
      rw [hz1, xB, Nat.mod_eq_of_lt hqB] at hset2
      rw [xB, Nat.mod_eq_of_lt hw] at hset1
      have e1 : B ^ i * ((d * 2 ^ k) % B) + B ^ (i + 1) * (d * 2 ^ k / B) = B ^ i * (d * 2 ^ k) := by
        rw [Nat.pow_succ, Nat.mul_assoc, ← Nat.mul_add, Nat.mod_add_div]
      rw [Nat.mul_add (B ^ i) o, hoo] at hset1
      simp only [UInt32.toNat_zero, Nat.mul_zero, Nat.add_zero] at hset2
      omega
    · show ((out1.set (i + 1) _).getD (i + 1) 0).toNat < 2 ^ k
      have : (out1.set (i + 1) (UInt32.ofNat (d * 2 ^ k / B))).getD (i + 1) 0 = UInt32.ofNat (d * 2 ^ k / B) := by
        have : i + 1 < out1.length := om
        simp [this]
      rw [this, xB, Nat.mod_eq_of_lt hqB]
      exact hq
    · intro j hj
      show (out1.set (i + 1) _).getD j 0 = 0
      have hj' : i + 1 < j := hj
      rw [fI _ _ _ _ (by omega), ← hout1, fI _ _ _ _ (by omega)]
      exact h4 j (by omega)
    · cbv
      exact ⟨lR, lR, lR, lR, lR, zC om, trivial⟩
    · cbv
      refine ⟨zA ?_, trivial⟩
      show ((lm out).set (0 + (i : Int).toNat) [.int .u32 (ior .u32 (o : Int) (nx .u32 (ishl .u64 (nx .u64 (d : Int)) (k : Int))))]).set (0 + ((i : Int) + 1).toNat) [.int .u32 (nx .u32 (ishr .u64 (ishl .u64 (nx .u64 (d : Int)) (k : Int)) 32))] = _
      rw [hels, hT, fH]
      exact kL out1 hi1 _
  · cbv
    have hip : i = a.length := om
    subst hip
    rw [List.take_of_length_le (Nat.le_refl _)] at h3
    refine ⟨⟨_, _, id, .refl _, rfl, fG (lR), rfl, ?_, rfl, trivial⟩⟩
    exact ⟨⟨by rw [zEZ h2 h3]; rfl, rfl⟩, trivial⟩
theorem zBM {f : FuncId} {fn : Func} (hf : Pg.funcs[f]? = some fn) (hb : fn.body.isSome = true) (hname : (fn.name == "runtime.NumGoroutine") = false) {k k' : IntKind} {x z : Int} (h:∀ w,Calls Pg f #[.int k x] w fun e w'=>e=.returned (.int k' z)/\w'=w):zM f [.int k (fun _=>x)] (.int k' (fun _=>z)) where
 isf vals w:=by
  (obtain⟨c,hc⟩:=Option.isSome_iff_exists.1 hb;have hn : ¬ fn.name = "runtime.NumGoroutine" := by simpa using hname);simp[callFunc,hf,hn,hc]
 go w S β vals hbnd hobj hsz hrep:=by
  have h0:=xV (hrep 0 (by simp));have hv:vals=#[.int k x]:=by
   apply Array.ext;{simpa using hsz}
   ·(intro i h1 h2;have:i=0:=by simp at h2;omega);subst this
    (have:vals.getD 0 undef=vals[0]:=by simp[h1]);rw[this] at h0
    simpa using h0
  subst hv;refine (h w).mono ?_;rintro e w' ⟨rfl,rfl⟩;exact⟨_,S,β,rfl,⟨Nat.le_refl _,rfl,rfl,rfl,fun _ _ _=>rfl,fun b vs T h=>⟨vs,h,rfl⟩,hbnd,fun _ _ _ h=>h,fun _ _ _ _ h=>h⟩,.c rfl (.int _ _),hobj,rfl,fun _ _ h=>by simp at h,fun n o b h=>by simp at h⟩
theorem zO5:Pg.funcs[161]?=some Tryz.f161:=by rw[xX];rfl
theorem s228 (x:Nat)(hx:x<4294967296):zM 161 [.int .u32 (fun _=>(x:Int))] (.int .i64 (fun _=>(Lib.bitLen x:Int))):=by refine zBM zO5 rfl rfl fun w=>?_;rw[xX];exact zO4 (x:Int) w (by omega) (by omega)
theorem jH {x:Nat}(hx:x<4294967296):Lib.bitLen x<=32:=Lib.bitLen_le x 32 (by omega) (by omega)
theorem s233 (x:Nat)(hx:x<4294967296):zM 171 [.int .u32 (fun _=>(x:Int))] (.int .i64 (fun _=>32-(Lib.bitLen x:Int))):=by refine sF Tryz.f171 ?_;have:=jH hx;cbv;refine cA (s228 x hx) ?_;cbv;refine⟨zE om om,?_⟩;exact uI rfl (lR) rfl
def qJ (n:Nat):Nat:=if n=0 then 0 else 32*((zD n).length-1)+Lib.bitLen ((zD n).getD ((zD n).length-1) 0).toNat
theorem rF {x:Nat}(h:x≠0)(hx:x<4294967296):0<Lib.bitLen x:=by rw[Lib.bitLen_half x h (by omega)];omega
theorem zM5 {n:Nat}(h:n≠0):((zD n).getD ((zD n).length-1) 0).toNat≠0:=by have h1:=f8 n;rw[cS (fun e=>h (xI.1 e))] at h1;intro e;have:(zD n).getD ((zD n).length-1) 0=0:=UInt32.toNat_inj.1 e;rw[this] at h1;exact absurd h1 (by decide)
theorem aT {n:Nat}:qJ n=0↔n=0:=by unfold qJ;split;{simp_all};{rename_i h;have:=rF (zM5 h) (yD _);constructor <;> intro <;> omega}
theorem zI7 {n:Nat}:qJ n<=32*(zD n).length:=by
 unfold qJ;split;{omega}
 ·(rename_i h;have h1:=jH (x:=((zD n).getD ((zD n).length-1) 0).toNat) (yD _);have:0<(zD n).length:=by rcases Nat.eq_zero_or_pos (zD n).length with e|e;exact absurd (xI.1 (List.eq_nil_of_length_eq_zero e)) h;exact e);omega
theorem s202 (l:List UInt32)(hl:l.length<2^40):zM 136 [nat l] (.int .i64 (fun _=>(qJ (val l):Int))):=by
 refine sF Tryz.f136 ?_;have hl':=Nat.lt_of_le_of_lt (zT l) hl;cbv;refine cA (jT l (by omega)) ?_;cbv;refine zF (fun h=>?_) (fun h=>?_);{cbv;refine uI rfl ?_ rfl;have:val l=0:=xI.1 (List.eq_nil_of_length_eq_zero om);exact zC (by rw[aT.2 this];rfl)}
 ·(cbv;have h0:val l≠0:=fun e=>h (by rw[e,z6];rfl);have hp:0<(zD (val l)).length:=om;refine⟨zE om om,zE om om,zE om om,y5 ((zD (val l)).length-1) om om ?_⟩;cbv;have h3:=jH (x:=((zD (val l)).getD ((zD (val l)).length-1) 0).toNat) (yD _);have h5:qJ (val l)=32*((zD (val l)).length-1)+Lib.bitLen ((zD (val l)).getD ((zD (val l)).length-1) 0).toNat:=by rw[qJ,if_neg h0]);refine cA (s228 ((zD (val l)).getD ((zD (val l)).length-1) 0).toNat (yD _)) ?_
  generalize Lib.bitLen ((zD (val l)).getD ((zD (val l)).length-1) 0).toNat=t at *
  cbv;refine⟨zE om om,?_⟩;refine uI rfl ?_ rfl;exact zC (by rw[h5];(try dsimp only [zJ] at *);simp only[zG];omega)
theorem zEQ {a b:Nat}(ha:a<18446744073709551616)(hb:b<18446744073709551616):ior .u64 (a:Int) (b:Int)=((a ||| b:Nat):Int):=by
 unfold ior;have h1:a ||| b<2^64:=Nat.or_lt_two_pow ha hb;have key:(BitVec.ofInt 64 (a:Int) ||| BitVec.ofInt 64 (b:Int)).toNat=a ||| b:=by rw[BitVec.toNat_or,BitVec.ofInt_natCast,BitVec.ofInt_natCast,BitVec.toNat_ofNat,BitVec.toNat_ofNat,Nat.mod_eq_of_lt (show a<2^64 from ha),Nat.mod_eq_of_lt (show b<2^64 from hb)]
 show IntKind.u64.wrap ((BitVec.ofInt 64 (a:Int) ||| BitVec.ofInt 64 (b:Int)).toNat:Int)=_;rw[key];have:=wT ((a ||| b:Nat):Int);unfold nx at this;rw[this];omega
theorem or2 {a b:Nat}(ha:a<4294967296)(hb:b<4294967296):ior .u64 (a:Int) (ishl .u64 (nx .u64 (b:Int)) 32)=((a+4294967296*b:Nat):Int):=by have h1:=dW (a:=b) (k:=32) (by omega) (by omega);rw[xG (by omega)];show ior .u64 (a:Int) (ishl .u64 (b:Int) ((32:Nat):Int))=_;rw[h1,zEQ (by omega) (by omega),Nat.mul_comm b,cI (k:=32) ha]
theorem or2' {a b:Nat}(ha:a<4294967296)(hb:b<4294967296):ior .u64 (ishl .u64 (b:Int) 32) (nx .u64 (a:Int))=((a+4294967296*b:Nat):Int):=by have h1:=dW (a:=b) (k:=32) (by omega) (by omega);rw[xG (by omega)];show ior .u64 (ishl .u64 (b:Int) ((32:Nat):Int)) (a:Int)=_;rw[h1,zEQ (by omega) (by omega),Nat.mul_comm b,Nat.or_comm,cI (k:=32) ha]
theorem len2 {n:Nat}:(zD n).length<=2↔n<B*B:=by
 constructor
 ·(intro h;have h1:=xE (zD n);rw[zK] at h1;have:=Nat.pow_le_pow_right xN h;have e:B^2=B*B:=by rw[Nat.pow_succ,Nat.pow_one]);omega
 {intro h;exact z4 (by rw[Nat.pow_succ,Nat.pow_one];exact h)}
theorem s231 (l:List UInt32)(hl:l.length<2^40):zM 169 [nat l] (.tup [.int .u64 (fun _=>((if val l<B*B then val l else 0:Nat):Int)),.bool (fun _=>decide (val l<B*B))]):=by
 refine sF Tryz.f169 ?_;have hl':=Nat.lt_of_le_of_lt (zT l) hl;cbv;refine cA (jT l (by omega)) ?_;cbv;refine zF (fun h=>?_) (fun h=>?_)
 ·(cbv;have h1:¬val l<B*B:=fun h1=>by have:=len2.2 h1;(try dsimp only [zJ] at *);simp only[zG] at h;omega);refine uI rfl ?_ rfl
  exact⟨zC (by rw[if_neg h1];rfl),zL (decide_eq_false h1),trivial⟩
 ·have h2:(zD (val l)).length<=2:=om;have h1:val l<B*B:=len2.1 h2;have hv:=zK (val l);generalize zD (val l)=p at *
  cbv;refine yB (σ:=Nat) (fun s=>⟨[(0,nat p),(4,.int .u64 (fun _=>(val (p.take s):Int))),(12,nat p),(13,.int .i64 (fun _=>(p.length:Int))),(14,.int .i64 (fun _=>(s:Int)))],[]⟩)
   (fun s=>s<=p.length) (fun s=>p.length-s) 0 om (.le ?_ trivial rfl) ?_
  {cbv;exact⟨lR,lR,lR,zC om,lR,trivial⟩};intro i hi;cbv;refine zF (fun h5=>?_) (fun h5=>?_)
  ·cbv;refine y5 i om om ?_;cbv;refine⟨zE om om,wP om,zE om om,i+1,om,om,.le ?_ trivial rfl⟩;cbv;have hd:=yD (p.getD i 0);have hv1:=xS p i;have hv2:=zR p i;refine⟨lR,zC ?_,lR,lR,zC om,trivial⟩;have hi2:i=0\/i=1:=om;simp only[B] at hd;rcases hi2 with rfl|rfl
   ·(rw[hv2];simp only[val,List.take_zero,Nat.pow_zero,Nat.one_mul];have e:=or2 (a:=0) (b:=0) (by omega) (by omega);have h9:ishl .u64 (nx .u64 ((p.getD 0 0).toNat:Int)) (32*((0:Nat):Int))=((p.getD 0 0).toNat:Int):=by have:=dW (a:=(p.getD 0 0).toNat) (k:=0) (by omega) (by omega);rw[xG (by omega)];simpa using this);show ior .u64 ((0:Nat):Int) (ishl .u64 (nx .u64 ((p.getD 0 0).toNat:Int)) (32*((0:Nat):Int)))=_;rw[h9,zEQ (by omega) (by omega)];simp
   {rw[hv2];rw[Nat.pow_one] at hv1 ⊢;have:=or2 (a:=val (p.take 1)) (b:=(p.getD 1 0).toNat) hv1 (by omega);show ior .u64 (val (p.take 1):Int) (ishl .u64 (nx .u64 ((p.getD 1 0).toNat:Int)) 32)=_;rw[this];rfl}
  {cbv;refine uI rfl ?_ rfl;have:i=p.length:=om;subst this;rw[List.take_of_length_le (Nat.le_refl _)];exact⟨zC (by rw[if_pos h1,hv]),zU (decide_eq_true h1),trivial⟩}
theorem zH7 {bi b1 Y s:Nat}(hs:s<32)(hb:bi<B)(h1:b1=Y%B):(bi+B*Y)/2^s=((bi+B*b1)/2^s)%B+B*(Y/2^s):=by
 have hP:0<2^s:=Nat.two_pow_pos s;have hB:B=2^s*2^(32-s):=by
  (rw[<-Nat.pow_add];have:s+(32-s)=32:=by omega);rw[this];rfl
 have key:∀ y,(bi+B*y)/2^s=(bi+B*(y%2^s))/2^s+B*(y/2^s):=by
  intro y;have e:bi+B*y=(bi+B*(y%2^s))+2^s*(B*(y/2^s)):=by
   have h:=Nat.mod_add_div y (2^s)
   calc bi+B*y=bi+B*(y%2^s+2^s*(y/2^s)):=by rw[h]
    _=_:=by rw[Nat.mul_add,Nat.mul_left_comm];omega
  rw[e,Nat.add_mul_div_left _ _ hP]
 have hmod:b1%2^s=Y%2^s:=by rw[h1];exact Nat.mod_mod_of_dvd Y ⟨_,hB⟩
 have hlt:(bi+B*(Y%2^s))/2^s<B:=by rw[Nat.div_lt_iff_lt_mul hP];have h2:=Nat.mod_lt Y hP;have h3:=Nat.mul_le_mul_left B (show Y%2^s+1<=2^s from h2);rw[Nat.mul_add] at h3;omega
 rw[key Y,key b1,hmod,Nat.add_mul_mod_self_left,Nat.mod_eq_of_lt hlt]
theorem zIS {a k:Nat}(hk:k<=64):ishr .u64 (a:Int) (k:Int)=((a/2^k:Nat):Int):=by
 unfold ishr;have:min (k:Int).toNat IntKind.u64.bits=k:=by simp[IntKind.bits];omega
 rw[this,Int.fdiv_eq_ediv_of_nonneg _ (by exact Int.le_of_lt (Int.pow_pos (by decide)))]
 push_cast
 rfl
theorem kV {a b:Nat}:irem (a:Int) (b:Int)=((a%b:Nat):Int):=by unfold irem;rfl
theorem jW {a b:Nat}:iquo (a:Int) (b:Int)=((a/b:Nat):Int):=by unfold iquo;rfl
theorem cB {l:List UInt32}(j:Nat):(l.getD j 0).toNat=val (l.drop j)%B:=by rcases Nat.lt_or_ge j l.length with h|h;{rw[uC h,Nat.add_mul_mod_self_left,Nat.mod_eq_of_lt (yD _)]};{rw[List.drop_of_length_le h];simp[List.getElem?_eq_none h,val]}
theorem oD (n k:Nat):val ((zD n).drop (k/32))/2^(k%32)=n/2^k:=by
 have e:val ((zD n).drop (k/32))=n/B^(k/32):=by
  rcases Nat.lt_or_ge (zD n).length (k/32) with h|h;{rw[List.drop_of_length_le (by omega)];have h1:=xE (zD n);rw[zK] at h1;have:=Nat.pow_le_pow_right xN (Nat.le_of_lt h);rw[Nat.div_eq_of_lt (by omega)];rfl}
  ·have h1:=rL (l:=zD n) (k/32) h;rw[zK] at h1;have h2:=xS (zD n) (k/32);have hB:=Nat.pow_pos (n:=k/32) xN;generalize B^(k/32)=M at *
   generalize val ((zD n).drop (k/32))=x at *
   rw[h1,Nat.add_mul_div_left _ _ hB,Nat.div_eq_of_lt h2];omega
 rw[e,Nat.div_div_eq_div_mul];congr 1;show (2^32)^(k/32)*2^(k%32)=2^k;rw[<-Nat.pow_mul,<-Nat.pow_add];congr 1;omega
theorem l6 {z:Int}(h1:-9223372036854775808<=z)(h2:z<9223372036854775808):nx .i64 z=z:=by unfold nx;simp[IntKind.wrap,IntKind.signed,IntKind.bits];split <;> omega
theorem s237 (a:List UInt32)(k:Nat)(ha:a.length<2^40)(hk:k<=1048576):zM 175 [nat a,.int .i64 (fun _=>(k:Int))] (.tup [nat (zD (val a/2^k)),.int .i64 (fun _=>0)]):=by
 refine sF Tryz.f175 ?_;have ha':=Nat.lt_of_le_of_lt (zT a) ha;have hdp:=oD (val a) k;have hq:iquo (k:Int) 32=((k/32:Nat):Int):=jW (b:=32);have hr:irem (k:Int) 32=((k%32:Nat):Int):=kV (b:=32);have hni:nx .i64 (iquo (k:Int) 32)=((k/32:Nat):Int):=by rw[hq,l6 (by omega) (by omega)]
 cbv;refine yG (fun h=>om) (fun h=>?_);cbv;refine zF (fun h=>om) (fun h=>?_);cbv;refine cA (jT a (by omega)) ?_;generalize hp:zD (val a)=p at *
 cbv;refine⟨v9 (by omega),?_⟩;refine zF (fun h2=>?_) (fun h2=>?_)
 ·cbv
  (try dsimp only [zJ] at *)
  rw[hni] at h2;refine uI rfl ?_ rfl;refine⟨zN ?_,lR,trivial⟩;rw[List.drop_of_length_le (by rw[zG] at h2;omega)] at hdp;rw[<-hdp];simp[val,z6,lm]
 ·(try dsimp only [zJ] at *)
  rw[hni] at h2;cbv;have hkl:k/32<p.length:=om;refine⟨v9 (by omega),aD (by (try dsimp only [zJ] at *);rw[hni];omega) (by (try dsimp only [zJ] at *);rw[hni,zG];omega) (Int.le_refl _),sY p,?_⟩;have hsl:((lm p).take (((lm p).length:Nat):Int).toNat).drop (nx .i64 (iquo (k:Int) 32)).toNat=lm (p.drop (k/32)):=by rw[hni,Int.toNat_natCast,Int.toNat_natCast,List.take_of_length_le (Nat.le_refl _),zFY]
  (try dsimp only [zJ] at *)
  (rw[hsl];have hbl:(p.drop (k/32)).length<2^40:=by rw[List.length_drop];omega);generalize p.drop (k/32)=b at *
  cbv;refine⟨yJ om om,wM om om,?_⟩;cbv;refine yB (σ:=Nat×List UInt32) (fun s=>⟨[(0,nat b),(1,.int .i64 (fun _=>(k:Int))),(6,.osl 29 1 (fun _=>0) (fun _=>b.length)),(30,nat b),(31,.int .i64 (fun _=>(b.length:Int))),(32,.int .i64 (fun _=>(s.1:Int)))],[(29,.arr 1 (fun _=>lm s.2))]⟩)
   (fun s=>s.1<=b.length/\s.2.length=b.length/\val (s.2.take s.1)+B^s.1*(val (b.drop s.1)/2^(k%32))=val b/2^(k%32)) (fun s=>b.length-s.1)
   (0,List.replicate b.length 0) ⟨om,by simp,by simp[val]⟩ (.le ?_ ?_ rfl) ?_
  {cbv;exact⟨lR,lR,z5 rfl om,lR,zC om,lR,trivial⟩}
  ·(cbv;refine⟨zA ?_,trivial⟩;show List.replicate (((lm b).length:Int)).toNat _=_;have:(((lm b).length:Int)).toNat=b.length:=by rw[zG];omega);rw[this]
   simp[lm,xM,toD]
  intro s hs;obtain⟨h1,h3,h4⟩:=hs;generalize s.1=i at *
  generalize s.2=out at *
  cbv;refine zF (fun h5=>?_) (fun h5=>?_)
  ·cbv;refine y5 i om om ?_;cbv;have hd:=yD (b.getD i 0);have hd1:=yD (b.getD (i+1) 0);have hks:k%32<32:=Nat.mod_lt _ (by omega);refine⟨zE om om,?_⟩;refine fN (σ:=Unit) (fun _=>⟨[(0,nat b),(1,.int .i64 (fun _=>(k:Int))),(6,.osl 29 1 (fun _=>0) (fun _=>b.length)),(7,.int .i64 (fun _=>(i:Int))),(9,.int .u64 (fun _=>(((b.getD i 0).toNat+4294967296*(b.getD (i+1) 0).toNat:Nat):Int))),(30,nat b),(31,.int .i64 (fun _=>(b.length:Int))),(32,.int .i64 (fun _=>(i:Int)))],[(29,.arr 1 (fun _=>lm out))]⟩) (fun _=>True) (fun h6=>?_) (fun h6=>?_) ?_
   ·cbv;refine⟨zE om om,y5 (i+1) om om ?_⟩;cbv;refine⟨wP (by omega),(),trivial,.le ?_ ?_ rfl⟩
    ·cbv;refine⟨lR,lR,lR,lR,zC ?_,lR,lR,lR,trivial⟩
     (try dsimp only [zJ] at *)
     rw[xG (n:=(b.getD i 0).toNat) (by simp only[B] at hd;omega)];exact or2 hd hd1
    {cbv;exact⟨zA rfl,trivial⟩}
   ·cbv;refine⟨(),trivial,.le ?_ ?_ rfl⟩
    ·cbv;refine⟨lR,lR,lR,lR,zC ?_,lR,lR,lR,trivial⟩;have:(b.getD (i+1) 0).toNat=0:=by have:b.length<=i+1:=om;simp[List.getElem?_eq_none this]
     (try dsimp only [zJ] at *)
     rw[xG (n:=(b.getD i 0).toNat) (by simp only[B] at hd;omega),this];rfl
    {cbv;exact⟨zA rfl,trivial⟩}
   intro _ _;have hY:(b.getD (i+1) 0).toNat=val (b.drop (i+1))%B:=cB _;have hX:=uC (l:=b) (i:=i) om;have hst:=zH7 (bi:=(b.getD i 0).toNat) hks hd hY;rw[<-hX] at hst;generalize hw:(b.getD i 0).toNat+4294967296*(b.getD (i+1) 0).toNat=w at *
   have hw':(b.getD i 0).toNat+B*(b.getD (i+1) 0).toNat=w:=hw;rw[hw'] at hst;cbv;refine⟨v9 (by omega),wP (by (try dsimp only [zJ] at *);rw[hr];omega),zQ om om,qI i (by simp) om ?_⟩;cbv;refine⟨zE om om,(i+1,out.set i (UInt32.ofNat (w/2^(k%32)))),⟨om,by simpa using h3,?_⟩,om,.le ?_ ?_ rfl⟩;{show val ((out.set i _).take (i+1))+B^(i+1)*_=_;rw[w7 _ om,xB,<-h4,hst,Nat.mul_add,Nat.pow_succ,Nat.mul_assoc,Nat.add_assoc]};{cbv;exact⟨lR,lR,lR,lR,lR,zC om,trivial⟩}
   ·(cbv;refine⟨zA ?_,trivial⟩;have e:ishr .u64 (w:Int) (irem (k:Int) 32)=((w/2^(k%32):Nat):Int):=by rw[hr];exact zIS (by omega));show (lm out).set (0+(i:Int).toNat) [.int .u32 (nx .u32 (ishr .u64 (w:Int) (irem (k:Int) 32)))]=_
    rw[e];exact kL out (by simp) _
  {cbv;have hi:i=b.length:=om;subst hi;refine fO (.trans (.le (ps':=⟨[(62,.osl 29 1 (fun _=>0) (fun _=>b.length))],[(29,.arr 1 (fun _=>lm out))]⟩) ?_ ?_ rfl) (.frz 29 rfl rfl ?_ ?_)) rfl (by refine⟨zX ?_,trivial⟩;exact List.take_of_length_le (by simp[zG] <;> omega)) (jT out (by omega)) rfl ?_;{cbv;exact okA};{cbv;exact⟨zA rfl,trivial⟩};{cbv;exact⟨yL (by simp[zG] <;> omega),trivial⟩};{exact trivial};cbv;refine uI rfl ?_ rfl;refine⟨zX ?_,lR,trivial⟩;rw[List.take_of_length_le (by omega),List.drop_of_length_le (Nat.le_refl _)] at h4;congr 2;rw[<-hdp,<-h4];simp[val]}
theorem t5 (n:Nat)(m:Int)(h:m=n):(List.replicate m.toNat (xM [.int .u32 (fun _=>0)]):List (List D))=lm (List.replicate n 0):=by subst h;simp[lm,xM,toD]
theorem rK {l:List UInt32}{i:Nat}(h:i<l.length)(x:UInt32):val ((l.set i x).drop i)=x.toNat+B*val (l.drop (i+1)):=by have:=uC (l:=l.set i x) (i:=i) (by simpa using h);rw[this,List.drop_set_of_lt (by omega)];simp[h]
theorem s232 (a:List UInt32)(d:Nat)(ha:a.length<2^40)(hd:d<B)(hd0:0<d):zM 170 [nat a,.int .u32 (fun _=>(d:Int))] (.tup [nat (zD (val a/d)),nat (zD (val a%d))]):=by
 have hdd:nx .u64 (d:Int)=(d:Int):=xG (by simp only[B] at hd;omega);refine sF Tryz.f170 ?_;cbv;refine⟨yJ om om,wM om om,?_⟩;cbv;refine⟨zE om om,?_⟩;refine yB (σ:=Nat×Nat×List UInt32) (fun s=>⟨[(0,nat a),(1,.int .u32 (fun _=>(d:Int))),(6,.osl 11 1 (fun _=>0) (fun _=>a.length)),(7,.int .u64 (fun _=>(s.2.1:Int))),(8,.int .i64 (fun _=>(s.1:Int)-1))],[(11,.arr 1 (fun _=>lm s.2.2))]⟩)
  (fun s=>s.1<=a.length/\s.2.1<d/\s.2.2.length=a.length/\val (a.drop s.1)=d*val (s.2.2.drop s.1)+s.2.1) (fun s=>s.1)
  (a.length,0,List.replicate a.length 0) ⟨om,hd0,by simp,by simp[val]⟩ (.le ?_ ?_ rfl) ?_
 {cbv;exact⟨lR,lR,z5 rfl om,lR,zC om,trivial⟩};{cbv;exact⟨zA (t5 a.length _ om),trivial⟩};intro s hs;obtain⟨h1,h2,h3,h4⟩:=hs;generalize s.1=n at *
 generalize s.2.1=r at *
 generalize s.2.2=out at *
 cbv;refine zF (fun h5=>?_) (fun h5=>?_)
 ·(try dsimp only [zJ] at *)
  obtain⟨m,rfl⟩:∃ m,n=m+1:=⟨n-1,by omega⟩;cbv;have hx:=yD (a.getD m 0);refine⟨wP (by omega),y5 m om om ?_⟩;have hX:=uC (l:=a) (i:=m) om;generalize hxx:(a.getD m 0).toNat=x at *
  (have hT:ior .u64 (ishl .u64 (r:Int) 32) (nx .u64 (x:Int))=((x+B*r:Nat):Int):=by have:=or2' (a:=x) (b:=r) hx (by simp only[B] at hd;omega);exact this);have hlt:x+B*r<d*B:=by have:=Nat.mul_le_mul_left B (show r+1<=d from h2);rw[Nat.mul_add,Nat.mul_comm B d] at this;omega
  (have hq:(x+B*r)/d<B:=by rw[Nat.div_lt_iff_lt_mul hd0,Nat.mul_comm B d];exact hlt);have hdB:d*B<=B*B:=Nat.mul_le_mul_right B (Nat.le_of_lt hd)
  have hr:=Nat.mod_lt (x+B*r) hd0;have hdm:=Nat.div_add_mod (x+B*r) d;generalize hqq:(x+B*r)/d=q at *
  generalize hrr:(x+B*r)%d=r' at *
  (have hQ:iquo (ior .u64 (ishl .u64 (r:Int) 32) (nx .u64 (x:Int))) (nx .u64 (d:Int))=(q:Int):=by rw[hT,hdd,jW,hqq]);have hR:irem (ior .u64 (ishl .u64 (r:Int) 32) (nx .u64 (x:Int))) (nx .u64 (d:Int))=(r':Int):=by rw[hT,hdd,kV,hrr]
  cbv;refine⟨v9 (by (try dsimp only [zJ] at *);rw[hdd];omega),zQ om om,qI m om om ?_⟩;cbv;refine⟨v9 (by (try dsimp only [zJ] at *);rw[hdd];omega),zE om om,(m,r',out.set m (UInt32.ofNat q)),⟨om,hr,by simpa using h3,?_⟩,om,.le ?_ ?_ rfl⟩;{show val (a.drop m)=d*val ((out.set m _).drop m)+r';rw[hX,h4,rK om,xB,Nat.mod_eq_of_lt hq,Nat.mul_add B,Nat.mul_add d,Nat.mul_left_comm B d];have:x+B*r=d*q+r':=hdm.symm;omega};{cbv;exact⟨lR,lR,lR,zC hR,zC om,trivial⟩}
  ·cbv;refine⟨zA (kK out (j:=m) ?_ ?_ hq),trivial⟩
   ·(try dsimp only [zJ] at *);omega
   {show nx .u32 (nx .u64 (iquo (ior .u64 (ishl .u64 (r:Int) 32) (nx .u64 (x:Int))) (nx .u64 (d:Int))))=(q:Int);simp only[B] at hq;rw[hQ,xG (by omega),qY];omega}
 ·cbv;have hn:n=0:=om;subst hn;refine fO (.trans (.le (ps':=⟨[(7,.int .u64 (fun _=>(r:Int))),(39,.osl 11 1 (fun _=>0) (fun _=>a.length))],[(11,.arr 1 (fun _=>lm out))]⟩) ?_ ?_ rfl) (.frz 11 rfl rfl ?_ ?_)) rfl (by refine⟨zX ?_,trivial⟩;exact List.take_of_length_le (by simp[zG] <;> omega)) (jT out (by omega)) rfl ?_;{cbv;exact okA};{cbv;exact⟨zA rfl,trivial⟩};{cbv;exact⟨yL (by simp[zG] <;> omega),trivial⟩};{exact trivial};cbv;have hrB:r<B*B:=by have:=hd;simp only[B] at *;omega
  (refine cA (s211 r hrB) ?_;cbv;refine uI rfl ?_ rfl;simp only[List.drop_zero] at h4;have e1:val a/d=val out:=(Nat.div_eq_of_lt_le (by rw[Nat.mul_comm];omega) (by rw[Nat.mul_comm,Nat.mul_add];omega));have e2:val a%d=r:=by rw[h4,Nat.mul_add_mod];exact Nat.mod_eq_of_lt h2);exact⟨zX (by rw[e1]),zX (by rw[e2]),trivial⟩
theorem zIT {pre x post:List UInt32}{j:Nat}(h:j<x.length):(pre++(x++post)).getD (pre.length+j) 0=x.getD j 0:=by simp[List.getElem?_append,h,show ¬pre.length+j<pre.length by omega]
theorem fJ {pre x post:List UInt32}{i:Nat}{K:List PV->Prop}(j:Nat)(hi:i=pre.length+j)(hj:j<x.length)(hK:K [.int .u32 (fun _=>((x.getD j 0).toNat:Int))]):ElOk 1 (fun _=>lm (pre++(x++post))) (fun _=>i) K:=by refine qI (pre.length+j) hi (by simp;omega) ?_;rw[zIT hj];exact hK
theorem zKB {rs:List ResultVar}{r:PV}{ps:PS}{l:List PV}{n:Nat}{o:Obj'}(h1:gV ps rs=some l)(h2:les (r8 l) (ren id r))(h3:lv r=true)(h4:z7 ps.objs n=some o)(h5:j4 o=true)(h6:Nat.ble 1000000 n=true):RetOk rs r [(n,o)] [] ps :=
 ⟨ps,l,id,.refl ps,h1,fG h2,h3,⟨⟨by rw[zCT];exact h4,h5⟩,trivial⟩,rfl,⟨rfl,Nat.le_of_ble_eq_true h6⟩,trivial⟩
theorem zJN {rs:List ResultVar}{r:PV}{ps ps':PS}{l:List PV}{n:Nat}{o:Obj'}(hw:Wk ps ps')(h1:gV ps' rs=some l)(h2:les (r8 l) (ren id r))(h3:lv r=true)(h4:z7 ps'.objs n=some o)(h5:j4 o=true)(h6:Nat.ble 1000000 n=true):RetOk rs r [(n,o)] [] ps :=
 ⟨ps',l,id,hw,h1,fG h2,h3,⟨⟨by rw[zCT];exact h4,h5⟩,trivial⟩,rfl,⟨rfl,Nat.le_of_ble_eq_true h6⟩,trivial⟩
theorem zHF {v1 v2 u2 q r:Nat}(hr:r<B)(hv:0<v1)(h:¬(B<=q\/r*B+u2<q*v2)):aY v1 v2 u2 q r=q:=by rw[aY,dif_neg (by omega),if_neg h]
theorem zI0 {v1 v2 u2 q r:Nat}(hr:r<B)(hv:0<v1)(h:B<=q\/r*B+u2<q*v2)(h2:B<=r+v1):aY v1 v2 u2 q r=q-1:=by rw[aY,dif_neg (by omega),if_pos h,if_pos h2]
theorem zLM {v1 v2 u2 q r:Nat}(hr:r<B)(hv:0<v1)(h:B<=q\/r*B+u2<q*v2)(h2:¬B<=r+v1):aY v1 v2 u2 q r=aY v1 v2 u2 (q-1) (r+v1):=by rw[aY,dif_neg (by omega),if_pos h,if_neg h2]
abbrev kx (pre x post:List UInt32):List (Nat×Obj'):=[(1000000,.arr 1 (fun _=>lm (pre++(x++post))))]
theorem s236 (pre x post v:List UInt32)(n:Nat)(hx:x.length=n+3)(hv:v.length=n+2)(hn:n<2^40)(hp:pre.length<2^40)(hnorm:B<=2*(v.getD (n+1) 0).toNat)(hle:(x.getD (n+2) 0).toNat<=(v.getD (n+1) 0).toNat):Sound 174 [.osl 1000000 1 (fun _=>pre.length) (fun _=>n+3),nat v] (kx pre x post) [] (.int .u64 (fun _=>((aY (v.getD (n+1) 0).toNat (v.getD n 0).toNat (x.getD n 0).toNat (((x.getD (n+2) 0).toNat*B+(x.getD (n+1) 0).toNat)/(v.getD (n+1) 0).toNat) (((x.getD (n+2) 0).toNat*B+(x.getD (n+1) 0).toNat)%(v.getD (n+1) 0).toNat):Nat):Int))) (kx pre x post) []:=by
 refine sF Tryz.f174 ?_;have hu0:=yD (x.getD (n+2) 0);have hu1:=yD (x.getD (n+1) 0);have hu2:=yD (x.getD n 0);have hv1:=yD (v.getD (n+1) 0);have hv2:=yD (v.getD n 0);have hB:B=4294967296:=rfl;generalize hxa:(x.getD (n+2) 0).toNat=xa at *
 generalize hxb:(x.getD (n+1) 0).toNat=xb at *
 generalize hxc:(x.getD n 0).toNat=xc at *
 generalize hva:(v.getD (n+1) 0).toNat=va at *
 generalize hvb:(v.getD n 0).toNat=vb at *
 have hT:ior .u64 (ishl .u64 (nx .u64 (xa:Int)) 32) (nx .u64 (xb:Int))=((xa*B+xb:Nat):Int):=by rw[xG (n:=xa) (by omega),or2' hu1 hu0,Nat.mul_comm xa,Nat.add_comm];rfl
 have hva0:0<va:=by omega
 have hq0:(xa*B+xb)/va<=B+1:=by
  (have:xa*B+xb<(B+2)*va:=by have h1:=Nat.mul_le_mul_right B hle;rw[Nat.add_mul,Nat.mul_comm B va];omega);have:=(Nat.div_lt_iff_lt_mul hva0).2 this;omega
 have hr0:(xa*B+xb)%va<B:=Nat.lt_trans (Nat.mod_lt _ hva0) hv1;generalize hQ:aY va vb xc ((xa*B+xb)/va) ((xa*B+xb)%va)=Q;have hq':iquo ((xa*B+xb:Nat):Int) (va:Int)=(((xa*B+xb)/va:Nat):Int):=jW;have hr':irem ((xa*B+xb:Nat):Int) (va:Int)=(((xa*B+xb)%va:Nat):Int):=kV;generalize hq0':(xa*B+xb)/va=q0 at *
 generalize hr0':(xa*B+xb)%va=r0 at *
 generalize (xa*B+xb:Nat)=top at *
 have hvn:nx .u64 (va:Int)=(va:Int):=xG (by omega);cbv;refine zZ 13 (by cbv) ?_;cbv;refine⟨zQ om om,fJ (n+2) om om ?_⟩;cbv;refine⟨wP (by omega),zE om om,zQ om om,fJ (n+1) om om ?_⟩;cbv;refine zZ 18 (by cbv) ?_;cbv;refine⟨zE om om,y5 (n+1) om om ?_⟩;cbv;refine⟨v9 (by (try dsimp only [zJ] at *);rw[hva,hvn];omega),zE om om,y5 (n+1) om om ?_⟩;cbv;refine⟨v9 (by (try dsimp only [zJ] at *);rw[hva,hvn];omega),?_⟩;refine yB (σ:=Nat×Nat) (fun s=>⟨[(0,.osl 1000000 1 (fun _=>pre.length) (fun _=>n+3)),(1,nat v),(5,.int .i64 (fun _=>((n+2:Nat):Int))),(7,.int .u64 (fun _=>(s.1:Int))),(8,.int .u64 (fun _=>(s.2:Int)))],kx pre x post⟩)
  (fun s=>s.1<=B+1/\s.2<B/\aY va vb xc s.1 s.2=Q) (fun s=>B-s.2)
  (q0,r0) ⟨hq0,hr0,hQ⟩ (.le ?_ ?_ rfl) ?_
 ·cbv;refine⟨lR,lR,zC om,zC ?_,zC ?_,trivial⟩
  ·(try dsimp only [zJ] at *)
   rw[hxa,hxb,hva,hT,hvn,hq',xG (by omega)]
  ·(try dsimp only [zJ] at *)
   rw[hxa,hxb,hva,hT,hvn,hr']
 {cbv;exact⟨zA rfl,trivial⟩};intro s hs;obtain⟨h1,h2,h3⟩:=hs;generalize s.1=q at *
 generalize s.2=r at *
 have hround:(B<=q\/r*B+xc<q*vb)->0<q:=by rintro (h|h);{omega};{rcases Nat.eq_zero_or_pos q with e|e;{rw[e,Nat.zero_mul] at h;omega};{exact e}}
 have hq1:0<q->nx .u64 ((q:Int)-1)=((q-1:Nat):Int):=fun h=>by rw[wT];omega
 have hr1:nx .u64 ((r:Int)+(va:Int))=((r+va:Nat):Int):=by rw[wT];omega
 cbv;refine zZ 22 (by cbv) ?_;cbv;have fin:(B<=q\/r*B+xc<q*vb)->∀ (K:Prop),(B<=r+va->Q=q-1->K)->(¬B<=r+va->(aY va vb xc (q-1) (r+va)=Q/\q-1<=B+1/\r+va<B/\B-(r+va)<B-r)->K)->K:=by intro hc K k1 k2;by_cases h4:B<=r+va;{exact k1 h4 (by rw[<-h3,zI0 h2 hva0 hc h4])};{exact k2 h4 ⟨by rw[<-h3,zLM h2 hva0 hc h4],by omega,by omega,by omega⟩}
 refine yG (fun h4=>?_) (fun h4=>?_)
 ·(have hc:B<=q\/r*B+xc<q*vb:=.inl (by rw[hB];exact om);cbv;refine⟨zE om om,y5 (n+1) om om ?_⟩;have hz:nx .u64 ((r:Int)+nx .u64 (((v.getD (n+1) 0).toNat:Nat):Int))=((r+va:Nat):Int):=by rw[hva,hvn];exact hr1);have hz2:=hq1 (hround hc)
  cbv
  (try dsimp only [zJ] at *)
  refine fin hc _ (fun h6 h7=>?_) (fun h6 h7=>?_);{refine zF (fun h8=>?_) (fun h8=>absurd h8 (by rw[hz];omega));cbv;exact zKB rfl (zC (by rw[h7];exact hz2)) rfl rfl rfl rfl};{refine zF (fun h8=>absurd h8 (by rw[hz];omega)) (fun h8=>?_);cbv;refine⟨(q-1,r+va),⟨h7.2.1,h7.2.2.1,h7.1⟩,h7.2.2.2,.le ?_ ?_ rfl⟩;{cbv;exact⟨lR,lR,lR,zC hz2,zC hz,trivial⟩};{cbv;exact⟨zA rfl,trivial⟩}}
 ·(cbv;refine⟨zE om om,y5 n om om ?_⟩;cbv;refine⟨wP om,zE om om,zQ om om,fJ n om om ?_⟩;have hq2:q<B:=by rw[hB];exact om);have hm1:nx .u64 ((q:Int)*nx .u64 (((v.getD n 0).toNat:Nat):Int))=((q*vb:Nat):Int):=by rw[hvb,xG (n:=vb) (by omega)];have:q*vb<4294967296*4294967296:=Nat.mul_lt_mul'' (by omega) (by omega);exact xG (by omega)
  (have hm2:ior .u64 (ishl .u64 (r:Int) 32) (nx .u64 (((x.getD n 0).toNat:Nat):Int))=((r*B+xc:Nat):Int):=by rw[hxc];have:=or2' (a:=xc) (b:=r) hu2 h2;rw[this,Nat.mul_comm r,Nat.add_comm];rfl);cbv
  (try dsimp only [zJ] at *)
  refine zF (fun h5=>?_) (fun h5=>?_)
  ·(have hc:B<=q\/r*B+xc<q*vb:=.inr (by rw[hm1,hm2] at h5;omega);cbv;refine⟨zE om om,y5 (n+1) om om ?_⟩;have hz:nx .u64 ((r:Int)+nx .u64 (((v.getD (n+1) 0).toNat:Nat):Int))=((r+va:Nat):Int):=by rw[hva,hvn];exact hr1);have hz2:=hq1 (hround hc)
   cbv
   (try dsimp only [zJ] at *)
   refine fin hc _ (fun h6 h7=>?_) (fun h6 h7=>?_);{refine zF (fun h8=>?_) (fun h8=>absurd h8 (by rw[hz];omega));cbv;exact zKB rfl (zC (by rw[h7];exact hz2)) rfl rfl rfl rfl};{refine zF (fun h8=>absurd h8 (by rw[hz];omega)) (fun h8=>?_);cbv;refine⟨(q-1,r+va),⟨h7.2.1,h7.2.2.1,h7.1⟩,h7.2.2.2,.le ?_ ?_ rfl⟩;{cbv;exact⟨lR,lR,lR,zC hz2,zC hz,trivial⟩};{cbv;exact⟨zA rfl,trivial⟩}}
  ·(have hc:¬(B<=q\/r*B+xc<q*vb):=by rw[hm1,hm2] at h5;omega);have hs:=zHF h2 hva0 hc
   cbv;exact zKB rfl (zC (by rw[<-h3,hs])) rfl rfl rfl rfl
end Go.Proofs.YtfainocfaddbdaaGreat
