/-
  Chapter 4: chain matrices and divisors of valid ladders: both sides, and their bounds.
-/
import Derived.Test.YtnjngdcbkkonnaaGreatDoorA5
import Derived.Test.YtnjngdcbkkonnaaGreatDoorPB
import Derived.Shelf.Bits.Mul64
set_option linter.unusedVariables false
set_option linter.unusedSimpArgs false
set_option maxRecDepth 100000
set_option maxHeartbeats 1000000
namespace Go.Z
open Go Go.Abs
def cm (a b:GRat):GRat:=⟨wrapF .i64 (wrapF .i64 (a.num * b.num) - wrapF .i64 (a.den * b.den)),wrapF .i64 (wrapF .i64 (a.num * b.den) + wrapF .i64 (a.den * b.num))⟩
def ca (a b:GRat):GRat:=⟨wrapF .i64 (a.num + b.num),wrapF .i64 (a.den + b.den)⟩
theorem f63_eq {a b:GRat}:f63 a b=some (cm a b):=rfl
theorem f124_eq {a b:GRat}:f124 a b=some (cm a b):=rfl
theorem f64_eq {a b:GRat}:f64 a b=some (ca a b):=rfl
theorem f123_eq {a b:GRat}:f123 a b=some (ca a b):=rfl
def en0 (m:GMat):GRat:=⟨m.m0,m.m1⟩
def en1 (m:GMat):GRat:=⟨m.m2,m.m3⟩
def en2 (m:GMat):GRat:=⟨m.m4,m.m5⟩
def en3 (m:GMat):GRat:=⟨m.m6,m.m7⟩
def mk4 (x y z w:GRat):GMat:=⟨x.num,x.den,y.num,y.den,z.num,z.den,w.num,w.den⟩
def mp (a b:GMat):GMat:=mk4 (ca (cm (en0 a) (en0 b)) (cm (en1 a) (en2 b))) (ca (cm (en0 a) (en1 b)) (cm (en1 a) (en3 b))) (ca (cm (en2 a) (en0 b)) (cm (en3 a) (en2 b))) (ca (cm (en2 a) (en1 b)) (cm (en3 a) (en3 b)))
theorem f206_eq {a b:GMat}:f206 a b=some (mp a b):=rfl
def kM (s:List UInt8) (v:GRat):GMat:=if s=kSe then ⟨1,0,v.num,v.den,0,0,1,0⟩ else if s=kSh then ⟨1,0,0,0,v.num,v.den,1,0⟩ else if s=kB then ⟨v.num,v.den,1,0,0,0,v.num,v.den⟩ else ⟨v.num,v.den,0,0,1,0,v.num,v.den⟩
theorem kOf_eq {s:List UInt8} {v:GRat} (h:isK s=true):kOf s v=some (kM s v,divK s):=by
 unfold kOf kM divK
 by_cases h3:s=kB
 ·subst h3; rfl
 rw [decide_eq_false (show ¬ s=[98,108,111,99,107] from h3),cond_false]
 by_cases h1:s=kSe
 ·subst h1; rfl
 rw [if_neg h1,decide_eq_false (show ¬ s=[115,101,114,105,101,115] from h1),cond_false]
 by_cases h2:s=kSh
 ·subst h2; rfl
 rw [if_neg h2,decide_eq_false (show ¬ s=[115,104,117,110,116] from h2),cond_false]
 by_cases h4:s=kT
 ·subst h4; rfl
 ·simp [isK,h1,h2,h3,h4] at h
def vOf (w:Int) (x:GEl):GRat:=⟨x.a,wrapF .i64 (w * x.b)⟩
def stp (w:Int) (q:GMat × GRat) (x:GEl):GMat × GRat:=(mp q.1 (kM x.kind (vOf w x)),if divK x.kind then cm q.2 (vOf w x) else q.2)
def m1:GMat:=⟨1,0,0,0,0,0,1,0⟩
def chn (w:Int) (l:List GEl):GMat × GRat:=l.foldl (stp w) (m1,⟨1,0⟩)
theorem foldM_eq {w:Int}:∀ {l:List GEl} {q:GMat × GRat},(∀ x∈l,isK x.kind=true)→foldM w l q=some (l.foldl (stp w) q)
 | [],q,_=>rfl
 | x::l,q,h=>by
  have hx:=h x (List.mem_cons_self ..)
  simp only [foldM,stepM,kOf_eq hx,obind_at,f206_eq,List.foldl_cons]
  have:(cond (divK x.kind) (f207 q.2 ⟨x.a,wrapF .i64 (w * x.b)⟩) (some q.2))=some (if divK x.kind then cm q.2 (vOf w x) else q.2):=by
   cases divK x.kind <;> rfl
  rw [this,obind_at,obind_at]
  exact foldM_eq fun y hy=>h y (List.mem_cons_of_mem _ hy)
theorem f173_eq {o:Option (List GEl)} {w:Int} (hn:(o.getD []).length≤5) (h:∀ x∈o.getD [],isK x.kind=true):f173 o w=some (chn w (o.getD [])):=by
 unfold f173
 rw [decide_eq_true hn,cond_true,foldM_eq h]; rfl
structure okEl (x:GEl):Prop where
 k:isK x.kind=true
 a0:0≤x.a
 a8:x.a≤8
 b0:0≤x.b
 b8:x.b≤8
 z:divK x.kind=true→¬ (x.a=0∧x.b=0)
theorem rangeZ {n lo hi:Int} (h:checkRange n lo hi=0):lo≤n∧n≤hi:=by
 unfold checkRange at h
 split at h
 ·cases h
 ·split at h
  ·cases h
  ·omega
theorem elemE_ok {x:GEl} (h:elemE x=0):okEl x:=by
 unfold elemE at h
 rw [first_zero] at h
 have h1:=h _ (List.mem_cons_self ..)
 have h2:=rangeZ (h (checkRange x.a 0 8) (by simp))
 have h3:=rangeZ (h (checkRange x.b 0 8) (by simp))
 have h4:=h (whenE (divK x.kind && decide (x.a=0) && decide (x.b=0)) 6) (by simp)
 refine ⟨?_,h2.1,h2.2,h3.1,h3.2,?_⟩
 ·cases hk:isK x.kind with
  | true=>rfl
  | false=>rw [hk] at h1; cases h1
 ·intro hd ⟨ha,hb⟩
  rw [hd,decide_eq_true ha,decide_eq_true hb] at h4
  cases h4
theorem ladderE_ok {l:List GEl} (h:ladderE l=0):l.length≤5∧∀ x∈l,okEl x:=by
 unfold ladderE at h
 split at h
 ·cases h
 ·refine ⟨by omega,fun x hx=>elemE_ok ?_⟩
  rw [first_zero] at h
  exact h _ (List.mem_map_of_mem hx)
theorem mulb {B x y c:Int} (h1:-B≤x) (h2:x≤B) (h3:0≤y) (h4:y≤c) (hB:0≤B):-(B * c)≤x * y∧x * y≤B * c:=by
 have k1:x * y≤B * y:=Int.mul_le_mul_of_nonneg_right h2 h3
 have k2:B * y≤B * c:=Int.mul_le_mul_of_nonneg_left h4 hB
 have k3:(-B) * y≤x * y:=Int.mul_le_mul_of_nonneg_right h1 h3
 rw [Int.neg_mul] at k3
 omega
structure bd (B:Int) (z:GRat):Prop where
 a:-B≤z.num
 b:z.num≤B
 c:-B≤z.den
 d:z.den≤B
structure vl (v:GRat):Prop where
 a:0≤v.num
 b:v.num≤8
 c:0≤v.den
 d:v.den≤64
theorem cm_bd {B:Int} {z v:GRat} (hB:0≤B) (hB2:B≤100000000000) (hz:bd B z) (hv:vl v):bd (72 * B) (cm z v)∧cm z v=⟨z.num * v.num - z.den * v.den,z.num * v.den + z.den * v.num⟩:=by
 obtain ⟨z1,z2,z3,z4⟩:=hz
 obtain ⟨v1,v2,v3,v4⟩:=hv
 have k1:=mulb z1 z2 v1 v2 hB
 have k2:=mulb z3 z4 v3 v4 hB
 have k3:=mulb z1 z2 v3 v4 hB
 have k4:=mulb z3 z4 v1 v2 hB
 have e:cm z v=⟨z.num * v.num - z.den * v.den,z.num * v.den + z.den * v.num⟩:=by
  unfold cm
  rw [wrapF_i64 (x:=z.num * v.num) (by omega) (by omega),wrapF_i64 (x:=z.den * v.den) (by omega) (by omega),wrapF_i64 (x:=z.num * v.den) (by omega) (by omega),wrapF_i64 (x:=z.den * v.num) (by omega) (by omega),wrapF_i64 (by omega) (by omega),wrapF_i64 (by omega) (by omega)]
 refine ⟨?_,e⟩
 rw [e]
 exact ⟨by dsimp only; omega,by dsimp only; omega,by dsimp only; omega,by dsimp only; omega⟩
theorem cm_one {B:Int} {z:GRat} (hB2:B≤100000000000) (hz:bd B z):bd B (cm z ⟨1,0⟩):=by
 obtain ⟨z1,z2,z3,z4⟩:=hz
 unfold cm
 simp only [Int.mul_one,Int.mul_zero]
 rw [wrapF_i64 (x:=z.num) (by omega) (by omega),wrapF_i64 (x:=0) (by omega) (by omega),wrapF_i64 (x:=z.den) (by omega) (by omega),wrapF_i64 (by omega) (by omega),wrapF_i64 (by omega) (by omega)]
 exact ⟨by dsimp only; omega,by dsimp only; omega,by dsimp only; omega,by dsimp only; omega⟩
theorem cm_zero {B:Int} {z:GRat} (hB:0≤B):bd B (cm z ⟨0,0⟩):=by
 have e:cm z ⟨0,0⟩=⟨0,0⟩:=by unfold cm; simp only [Int.mul_zero]; rfl
 rw [e]
 exact ⟨by dsimp only; omega,hB,by dsimp only; omega,hB⟩
def sm (v:GRat):Prop:=v=⟨1,0⟩∨v=⟨0,0⟩
theorem cm_sm {B:Int} {z v:GRat} (hB:0≤B) (hB2:B≤100000000000) (hz:bd B z) (h:sm v):bd B (cm z v):=by
 rcases h with rfl | rfl
 ·exact cm_one hB2 hz
 ·exact cm_zero hB
theorem ca_bd {A B:Int} {x y:GRat} (hA:0≤A) (hB:0≤B) (h:A + B≤9000000000000000000) (hx:bd A x) (hy:bd B y):bd (A + B) (ca x y):=by
 obtain ⟨x1,x2,x3,x4⟩:=hx
 obtain ⟨y1,y2,y3,y4⟩:=hy
 unfold ca
 rw [wrapF_i64 (by omega) (by omega),wrapF_i64 (by omega) (by omega)]
 exact ⟨by dsimp only; omega,by dsimp only; omega,by dsimp only; omega,by dsimp only; omega⟩
theorem bd_mono {A B:Int} {z:GRat} (h:A≤B) (hz:bd A z):bd B z:=by
 obtain ⟨z1,z2,z3,z4⟩:=hz
 exact ⟨by omega,by omega,by omega,by omega⟩
theorem ent_bd {B:Int} {x y p q:GRat} (hB:0≤B) (hB2:B≤100000000000) (hx:bd B x) (hy:bd B y) (h:(vl p∧sm q)∨(sm p∧vl q)):bd (73 * B) (ca (cm x p) (cm y q)):=by
 rcases h with ⟨h1,h2⟩ | ⟨h1,h2⟩
 ·exact bd_mono (by omega) (ca_bd (by omega) hB (by omega) (cm_bd hB hB2 hx h1).1 (cm_sm hB hB2 hy h2))
 ·exact bd_mono (by omega) (ca_bd hB (by omega) (by omega) (cm_sm hB hB2 hx h1) (cm_bd hB hB2 hy h2).1)
structure bq (B:Int) (q:GMat × GRat):Prop where
 a:bd B (en0 q.1)
 b:bd B (en1 q.1)
 c:bd B (en2 q.1)
 d:bd B (en3 q.1)
 e:bd B q.2
theorem vl_one:vl ⟨1,0⟩:=⟨by decide,by decide,by decide,by decide⟩
theorem kM_cols {s:List UInt8} {v:GRat} (hv:vl v):((vl (en0 (kM s v))∧sm (en2 (kM s v)))∨(sm (en0 (kM s v))∧vl (en2 (kM s v))))∧((vl (en1 (kM s v))∧sm (en3 (kM s v)))∨(sm (en1 (kM s v))∧vl (en3 (kM s v)))):=by
 have hv':vl ⟨v.num,v.den⟩:=hv
 unfold kM
 split
 ·exact ⟨.inl ⟨vl_one,.inr rfl⟩,.inl ⟨hv',.inl rfl⟩⟩
 split
 ·exact ⟨.inr ⟨.inl rfl,hv'⟩,.inr ⟨.inr rfl,vl_one⟩⟩
 split
 ·exact ⟨.inl ⟨hv',.inr rfl⟩,.inr ⟨.inl rfl,hv'⟩⟩
 ·exact ⟨.inl ⟨hv',.inl rfl⟩,.inr ⟨.inr rfl,hv'⟩⟩
theorem vOf_ok {w:Int} {x:GEl} (hw:1≤w∧w≤8) (hx:okEl x):vl (vOf w x)∧vOf w x=⟨x.a,w * x.b⟩:=by
 have k:=mulb (B:=8) (x:=w) (y:=x.b) (c:=8) (by omega) (by omega) hx.b0 hx.b8 (by decide)
 have k0:0≤w * x.b:=Int.mul_nonneg (by omega) hx.b0
 have e:vOf w x=⟨x.a,w * x.b⟩:=by unfold vOf; rw [wrapF_i64 (by omega) (by omega)]
 refine ⟨?_,e⟩
 rw [e]
 exact ⟨hx.a0,hx.a8,k0,by dsimp only; omega⟩
theorem stp_bd {B w:Int} {q:GMat × GRat} {x:GEl} (hB:0≤B) (hB2:B≤100000000000) (hw:1≤w∧w≤8) (hx:okEl x) (h:bq B q):bq (73 * B) (stp w q x):=by
 have hv:=(vOf_ok hw hx).1
 obtain ⟨c1,c2⟩:=kM_cols (s:=x.kind) hv
 refine ⟨ent_bd hB hB2 h.a h.b c1,ent_bd hB hB2 h.a h.b c2,ent_bd hB hB2 h.c h.d c1,ent_bd hB hB2 h.c h.d c2,?_⟩
 unfold stp
 dsimp only
 split
 ·exact bd_mono (by omega) (cm_bd hB hB2 h.e hv).1
 ·exact bd_mono (by omega) h.e
def pw:Nat→Int
 | 0=>1
 | n + 1=>73 * pw n
theorem pw_pos:∀ n,1≤pw n
 | 0=>by decide
 | n + 1=>by have:=pw_pos n; unfold pw; omega
theorem fold_bd {w:Int} (hw:1≤w∧w≤8):∀ {l:List GEl} {k:Nat} {q:GMat × GRat},(∀ x∈l,okEl x)→k + l.length≤5→bq (pw k) q→bq (pw (k + l.length)) (l.foldl (stp w) q)
 | [],k,q,_,_,h=>h
 | x::l,k,q,ho,hk,h=>by
  rw [List.length_cons] at hk
  have hb:pw k≤28398241:=by
   have:k≤4:=by omega
   match k,this with
   | 0,_=>decide
   | 1,_=>decide
   | 2,_=>decide
   | 3,_=>decide
   | 4,_=>decide
  have:=fold_bd hw (l:=l) (k:=k + 1) (q:=stp w q x) (fun y hy=>ho y (List.mem_cons_of_mem _ hy)) (by omega) (stp_bd (by have:=pw_pos k; omega) (by omega) hw (ho x (List.mem_cons_self ..)) h)
  rw [show k + (x::l).length=k + 1 + l.length by rw [List.length_cons]; omega]
  exact this
theorem chn_bd {w:Int} {l:List GEl} (hw:1≤w∧w≤8) (hl:l.length≤5) (ho:∀ x∈l,okEl x):bq (pw l.length) (chn w l):=by
 have h0:bq (pw 0) (m1,⟨1,0⟩):=⟨⟨by decide,by decide,by decide,by decide⟩,⟨by decide,by decide,by decide,by decide⟩,⟨by decide,by decide,by decide,by decide⟩,⟨by decide,by decide,by decide,by decide⟩,⟨by decide,by decide,by decide,by decide⟩⟩
 have:=fold_bd hw ho (k:=0) (by omega) h0
 rw [Nat.zero_add] at this
 exact this
theorem pw_mono:∀ {n:Nat},n≤5→pw n≤2073071593
 | 0,_=>by decide
 | 1,_=>by decide
 | 2,_=>by decide
 | 3,_=>by decide
 | 4,_=>by decide
 | 5,_=>by decide
 | n + 6,h=>by omega
end Go.Z
/-
 Chapter 4: ratios in lowest terms,comparing them: both sides.
-/
namespace Go.Z
open Go Go.Abs
theorem remO_nat {a b:Nat} (h:b ≠ 0):remO (a:Int) (b:Int)=some ((a % b:Nat):Int):=by
 unfold remO
 rw [if_neg (by omega)]
 rfl
theorem gcd_it {δ:Type} {f:Int × Int→Option ((Int × Int) ⊕ δ)} {k:Int × Int→δ} (hf:∀ a b:Int,f (a,b)=cond (decide (b=0)) (some (.inr (k (a,b)))) (obind (remO a b) fun v=>some (.inl (b,v)))):∀ (n:Nat) (a b:Nat),b≤n→itO f ((a:Int),(b:Int))=some (k (((Nat.gcd a b:Nat):Int),0))
 | n,a,0,_=>by
  rw [Nat.gcd_zero_right]
  exact itO_out (by rw [hf]; rfl)
 | 0,a,b + 1,h=>by omega
 | n + 1,a,b + 1,h=>by
  have hm:a % (b + 1) < b + 1:=Nat.mod_lt _ (by omega)
  rw [itO_in (s':=(((b + 1:Nat):Int),((a % (b + 1):Nat):Int))) (by
   rw [hf,decide_eq_false (by omega),cond_false,remO_nat (by omega)]; rfl)]
  rw [gcd_it hf n (b + 1) (a % (b + 1)) (by omega)]
  rw [Nat.gcd_comm a (b + 1),Nat.gcd_rec (b + 1) a,Nat.gcd_comm]
def low (a b:Int):GRat:=⟨a / (Nat.gcd a.toNat b.toNat:Nat),b / (Nat.gcd a.toNat b.toNat:Nat)⟩
theorem quo_low {a g:Nat} (hg:0 < g) (ha:a≤9223372036854775807):quoO .i64 (a:Int) (g:Int)=some ((a:Int) / (g:Int)):=by
 unfold quoO
 rw [if_neg (by omega)]
 have e:(a:Int).tdiv (g:Int)=(a:Int) / (g:Int):=rfl
 rw [e,wrapF_i64]
 ·have:0≤(a:Int) / (g:Int):=Int.ediv_nonneg (by omega) (by omega)
  omega
 ·have:(a:Int) / (g:Int)≤(a:Int):=Int.ediv_le_self _ (by omega)
  omega
section
variable {a b:Int}
theorem low_gcd (hb:0 < b):0 < Nat.gcd a.toNat b.toNat:=Nat.gcd_pos_of_pos_right _ (by omega)
theorem f125_low (h0:0≤a) (h1:a≤9223372036854775807) (h2:0 < b) (h3:b≤9223372036854775807):f125 a b=some (low a b):=by
 have hg:=low_gcd (a:=a) h2
 obtain ⟨a,rfl⟩:=Int.eq_ofNat_of_zero_le h0
 obtain ⟨b,rfl⟩:=Int.eq_ofNat_of_zero_le (Int.le_of_lt h2)
 have hg:0 < Nat.gcd a b:=hg
 unfold f125
 rw [gcd_it (k:=id) (fun _ _=>rfl) b a b (Nat.le_refl _),obind_at]
 dsimp only [id]
 rw [quo_low hg (by omega),obind_at,quo_low hg (by omega),obind_at]
 rfl
theorem f174_low (h0:0≤a) (h1:a≤9223372036854775807) (h2:0 < b) (h3:b≤9223372036854775807):f174 a b=some (low a b):=by
 have hg:=low_gcd (a:=a) h2
 obtain ⟨a,rfl⟩:=Int.eq_ofNat_of_zero_le h0
 obtain ⟨b,rfl⟩:=Int.eq_ofNat_of_zero_le (Int.le_of_lt h2)
 have hg:0 < Nat.gcd a b:=hg
 unfold f174
 rw [gcd_it (k:=id) (fun _ _=>rfl) b a b (Nat.le_refl _),obind_at]
 dsimp only [id]
 rw [quo_low hg (by omega),obind_at,quo_low hg (by omega),obind_at]
 rfl
theorem f66_low (h0:0≤a) (h1:a≤9223372036854775807) (h2:0 < b) (h3:b≤9223372036854775807):f66 a b=some (low a b):=by
 have hg:=low_gcd (a:=a) h2
 obtain ⟨a,rfl⟩:=Int.eq_ofNat_of_zero_le h0
 obtain ⟨b,rfl⟩:=Int.eq_ofNat_of_zero_le (Int.le_of_lt h2)
 have hg:0 < Nat.gcd a b:=hg
 unfold f66
 rw [decide_eq_false (by omega),cond_false,wrapF_i64 (x:=0 - (a:Int)) (by omega) (by omega),show max (a:Int) (0 - (a:Int))=(a:Int) by omega]
 rw [gcd_it (k:=id) (fun _ _=>rfl) b a b (Nat.le_refl _),obind_at]
 dsimp only [id]
 rw [quo_low hg (by omega),obind_at,quo_low hg (by omega),obind_at]
 rfl
theorem low_ok (h0:0≤a) (h2:0 < b):0≤(low a b).num∧(low a b).num≤a∧1≤(low a b).den∧(low a b).den≤b:=by
 have hg:=low_gcd (a:=a) h2
 unfold low
 dsimp only
 refine ⟨Int.ediv_nonneg h0 (by omega),Int.ediv_le_self _ h0,?_,Int.ediv_le_self _ (by omega)⟩
 have hd:Nat.gcd a.toNat b.toNat≤b.toNat:=Nat.gcd_le_right _ (by omega)
 exact (Int.le_ediv_iff_mul_le (by omega)).2 (by omega)
end
theorem and32 (a:Nat) (ha:a < 18446744073709551616):bitF .and .u64 (a:Int) 4294967295=((a % 4294967296:Nat):Int):=Go.Proofs.Mul64.maskN a ha
theorem shr32 (a:Nat):shrO .u64 (a:Int) 32=some ((a / 4294967296:Nat):Int):=by
 show some (Int.fdiv (a:Int) (2 ^ 32))=_
 rw [show ((2:Int) ^ 32)=((4294967296:Nat):Int) from rfl]
 have:Int.fdiv (a:Int) ((4294967296:Nat):Int)=((a / 4294967296:Nat):Int):=by
  rw [Int.fdiv_eq_ediv_of_nonneg _ (by omega)]; omega
 rw [this]
theorem wrapN (a:Nat) (ha:a < 18446744073709551616):wrapF .u64 (a:Int)=(a:Int):=by rw [wrapF_eq]; exact Go.Proofs.Mul64.wrapN a ha
theorem wrapM (a:Nat):wrapF .u64 (a:Int)=((a % 18446744073709551616:Nat):Int):=by rw [wrapF_eq]; exact Go.Proofs.Mul64.wrapM a
theorem f165_eq (x y:Nat) (hx:x < 18446744073709551616) (hy:y < 18446744073709551616):f165 (x:Int) (y:Int)=some (((x * y / 18446744073709551616:Nat):Int),((x * y % 18446744073709551616:Nat):Int)):=by
 obtain ⟨bd,bt,bw,hhi⟩:=Lib.mul64_hi x y hx hy
 have ba:=Lib.half_mul_le (a:=x / 4294967296) (b:=y / 4294967296) (by omega) (by omega)
 have bb:=Lib.half_mul_le (a:=x / 4294967296) (b:=y % 4294967296) (by omega) (by omega)
 have bc:=Lib.half_mul_le (a:=x % 4294967296) (b:=y / 4294967296) (by omega) (by omega)
 have ba':x / 4294967296 * (y / 4294967296) < 18446744073709551616:=by omega
 have bb':x / 4294967296 * (y % 4294967296) < 18446744073709551616:=by omega
 have bc':x % 4294967296 * (y / 4294967296) < 18446744073709551616:=by omega
 have bh1:x / 4294967296 * (y / 4294967296) + (x / 4294967296 * (y % 4294967296) + x % 4294967296 * (y % 4294967296) / 4294967296) / 4294967296 < 18446744073709551616:=by omega
 have bh:x / 4294967296 * (y / 4294967296) + (x / 4294967296 * (y % 4294967296) + x % 4294967296 * (y % 4294967296) / 4294967296) / 4294967296 + ((x / 4294967296 * (y % 4294967296) + x % 4294967296 * (y % 4294967296) / 4294967296) % 4294967296 + x % 4294967296 * (y / 4294967296)) / 4294967296 < 18446744073709551616:=by omega
 unfold f165
 simp only [and32 x hx,and32 y hy,shr32,obind_at,Go.Proofs.Mul64.mulN,Go.Proofs.Mul64.addN,wrapN _ bd,wrapN _ bb',wrapN _ bt,and32 _ bt,wrapN _ bc',wrapN _ bw,wrapN _ ba',wrapN _ bh1,wrapN _ bh,wrapM (x * y)]
 rw [hhi]
theorem above_eq {a b:GRat} (a1:0≤a.num) (a2:a.num≤9223372036854775807) (a3:0≤a.den) (a4:a.den≤9223372036854775807) (b1:0≤b.num) (b2:b.num≤9223372036854775807) (b3:0≤b.den) (b4:b.den≤9223372036854775807):
  f127 a b=some (decide (b.num * a.den < a.num * b.den)):=by
 obtain ⟨p,q⟩:=a
 obtain ⟨r,s⟩:=b
 dsimp only at a1 a2 a3 a4 b1 b2 b3 b4 ⊢
 obtain ⟨p,rfl⟩:=Int.eq_ofNat_of_zero_le a1
 obtain ⟨q,rfl⟩:=Int.eq_ofNat_of_zero_le a3
 obtain ⟨r,rfl⟩:=Int.eq_ofNat_of_zero_le b1
 obtain ⟨s,rfl⟩:=Int.eq_ofNat_of_zero_le b3
 unfold f127
 simp only [wrapN p (by omega),wrapN q (by omega),wrapN r (by omega),wrapN s (by omega),f165_eq p s (by omega) (by omega),f165_eq r q (by omega) (by omega),obind_at]
 rw [Go.Proofs.Mul64.mulN,Go.Proofs.Mul64.mulN]
 generalize p * s=u
 generalize r * q=v
 by_cases h1:((v / 18446744073709551616:Nat):Int) < ((u / 18446744073709551616:Nat):Int)
 ·rw [decide_eq_true h1,cond_true,decide_eq_true (by omega)]
 ·rw [decide_eq_false h1,cond_false]
  by_cases h2:((u / 18446744073709551616:Nat):Int)=((v / 18446744073709551616:Nat):Int)
  ·rw [decide_eq_true h2,cond_true]
   congr 1
   exact decide_eq_decide.2 (by omega)
  ·rw [decide_eq_false h2,cond_false,decide_eq_false (by omega)]
theorem quoO_nat {a b:Nat} (h:0 < b) (ha:a≤9223372036854775807):quoO .i64 (a:Int) (b:Int)=some ((a / b:Nat):Int):=by
 rw [quo_low h ha]; rfl
theorem less_step {rec:GRat→GRat→Option Bool} {a b c d:Nat} (hb:0 < b) (hd:0 < d) (ha':a≤9223372036854775807) (hc':c≤9223372036854775807)
  (hr:a / b=c / d→0 < a % b→0 < c % d→rec ⟨d,((c % d:Nat):Int)⟩ ⟨b,((a % b:Nat):Int)⟩=some (decide (d * (a % b) < b * (c % d)))):
  F58 rec ⟨a,b⟩ ⟨c,d⟩=some (decide (a * d < c * b)):=by
 unfold F58
 dsimp only
 simp only [quoO_nat hb ha',quoO_nat hd hc',obind_at,remO_nat (show b ≠ 0 by omega),remO_nat (show d ≠ 0 by omega)]
 have ea:=Nat.div_add_mod a b
 have ec:=Nat.div_add_mod c d
 have la:=Nat.mod_lt a hb
 have lc:=Nat.mod_lt c hd
 have e1:a * d=b * d * (a / b) + d * (a % b):=by
  conv=>lhs; rw [← ea]
  rw [Nat.add_mul]
  rw [Nat.mul_right_comm,Nat.mul_comm (a % b) d]
 have e2:c * b=b * d * (c / d) + b * (c % d):=by
  conv=>lhs; rw [← ec]
  rw [Nat.add_mul,Nat.mul_right_comm,Nat.mul_comm d b,Nat.mul_comm (c % d) b]
 have f1:d * (a % b) < b * d:=by rw [Nat.mul_comm b d]; exact Nat.mul_lt_mul_of_pos_left la hd
 have f2:b * (c % d) < b * d:=Nat.mul_lt_mul_of_pos_left lc hb
 by_cases h1:a / b=c / d
 ·rw [decide_eq_true (show ((a / b:Nat):Int)=((c / d:Nat):Int) by omega),cond_true]
  have e3:(a * d < c * b)↔d * (a % b) < b * (c % d):=by rw [e1,e2,h1]; omega
  by_cases h2:a % b=0
  ·rw [decide_eq_true (show ((a % b:Nat):Int)=0 by omega),cond_true]
   congr 1
   by_cases h3:c % d=0
   ·rw [decide_eq_true (show ((c % d:Nat):Int)=0 by omega),decide_eq_false (by rw [e3,h2,h3]; omega)]; rfl
   ·have:0 < b * (c % d):=Nat.mul_pos hb (by omega)
    rw [decide_eq_false (show ¬ ((c % d:Nat):Int)=0 by omega),decide_eq_true (by rw [e3,h2]; omega)]; rfl
  ·rw [decide_eq_false (show ¬ ((a % b:Nat):Int)=0 by omega),cond_false]
   by_cases h3:c % d=0
   ·rw [decide_eq_true (show ((c % d:Nat):Int)=0 by omega),cond_true,decide_eq_false (by rw [e3,h3]; omega)]
   ·rw [decide_eq_false (show ¬ ((c % d:Nat):Int)=0 by omega),cond_false,hr h1 (by omega) (by omega),obind_at]
    congr 1
    exact decide_eq_decide.2 e3.symm
 ·rw [decide_eq_false (show ¬ ((a / b:Nat):Int)=((c / d:Nat):Int) by omega),cond_false]
  congr 1
  refine decide_eq_decide.2 ?_
  rw [e1,e2]
  constructor
  ·intro h
   have:b * d * (a / b + 1)≤b * d * (c / d):=Nat.mul_le_mul_left _ (by omega)
   rw [Nat.mul_add] at this
   omega
  ·intro h
   by_cases h4:a / b < c / d
   ·omega
   ·have:b * d * (c / d + 1)≤b * d * (a / b):=Nat.mul_le_mul_left _ (by omega)
    rw [Nat.mul_add] at this
    omega
theorem half_mod {a b:Nat} (h:b≤a) (hb:0 < b):2 * (a % b)≤a:=by
 have:=Nat.mod_lt a hb
 have e:=Nat.div_add_mod a b
 have:1≤a / b:=(Nat.le_div_iff_mul_le hb).2 (by omega)
 have:b * 1≤b * (a / b):=Nat.mul_le_mul_left _ this
 omega
theorem less_deep:∀ (n:Nat) (a b c d:Nat),0 < b→0 < d→b≤a→d≤c→a≤9223372036854775807→c≤9223372036854775807→a * b < 2 ^ n→c * d < 2 ^ n→f58 n ⟨a,b⟩ ⟨c,d⟩=some (decide (a * d < c * b))
 | 0,a,b,c,d,hb,hd,hab,hcd,_,_,h1,h2=>by
  have:1 * 1≤a * b:=Nat.mul_le_mul (by omega) hb
  omega
 | n + 1,a,b,c,d,hb,hd,hab,hcd,ha',hc',h1,h2=>by
  refine less_step hb hd ha' hc' fun _ k1 k2=>?_
  have la:=Nat.mod_lt a hb
  have lc:=Nat.mod_lt c hd
  have g1:d * (2 * (c % d))≤d * c:=Nat.mul_le_mul_left _ (half_mod hcd hd)
  have g2:b * (2 * (a % b))≤b * a:=Nat.mul_le_mul_left _ (half_mod hab hb)
  rw [Nat.pow_succ] at h1 h2
  rw [Nat.mul_left_comm] at g1 g2
  rw [Nat.mul_comm d c] at g1
  rw [Nat.mul_comm b a] at g2
  have:=less_deep n d (c % d) b (a % b) k2 k1 (by omega) (by omega) (by omega) (by omega) (by omega) (by omega)
  exact this
theorem less_eq {a b:GRat} (a1:0≤a.num) (a2:a.num≤9223372036854775807) (a3:1≤a.den) (a4:a.den≤9223372036854775807) (b1:0≤b.num) (b2:b.num≤9223372036854775807) (b3:1≤b.den) (b4:b.den≤9223372036854775807):
  f58 200 a b=some (decide (a.num * b.den < b.num * a.den)):=by
 obtain ⟨p,q⟩:=a
 obtain ⟨r,s⟩:=b
 dsimp only at a1 a2 a3 a4 b1 b2 b3 b4 ⊢
 obtain ⟨p,rfl⟩:=Int.eq_ofNat_of_zero_le a1
 obtain ⟨q,rfl⟩:=Int.eq_ofNat_of_zero_le (show (0:Int)≤q by omega)
 obtain ⟨r,rfl⟩:=Int.eq_ofNat_of_zero_le b1
 obtain ⟨s,rfl⟩:=Int.eq_ofNat_of_zero_le (show (0:Int)≤s by omega)
 rw [Go.Proofs.Mul64.mulN,Go.Proofs.Mul64.mulN]
 have h:=less_step (rec:=f58 199) (a:=p) (b:=q) (c:=r) (d:=s) (by omega) (by omega) (by omega) (by omega) (fun _ k1 k2=>by
  have la:=Nat.mod_lt p (show 0 < q by omega)
  have lc:=Nat.mod_lt r (show 0 < s by omega)
  have g1:s * (r % s)≤9223372036854775807 * 9223372036854775807:=Nat.mul_le_mul (by omega) (by omega)
  have g2:q * (p % q)≤9223372036854775807 * 9223372036854775807:=Nat.mul_le_mul (by omega) (by omega)
  have g3:9223372036854775807 * 9223372036854775807 < 2 ^ 199:=by decide
  exact less_deep 199 s (r % s) q (p % q) k2 k1 (by omega) (by omega) (by omega) (by omega) (by omega) (by omega))
 have e:f58 200 ⟨p,q⟩ ⟨r,s⟩=some (decide (p * s < r * q)):=h
 rw [e]
 congr 1
 exact decide_eq_decide.2 (by omega)
end Go.Z
/-
 Chapter 4: levels,sums and crossings: both sides.
-/
namespace Go.Z
open Go Go.Abs
def sqV (z:GRat):Int:=z.num * z.num + z.den * z.den
theorem sq_le {B x:Int} (h1:-B≤x) (h2:x≤B) (hB:0≤B):0≤x * x∧x * x≤B * B:=by
 have h0:0≤x * x:=by
  rcases Int.le_total 0 x with h | h
  ·exact Int.mul_nonneg h h
  ·have:=Int.mul_nonneg (a:=-x) (b:=-x) (by omega) (by omega)
   rw [Int.neg_mul_neg] at this
   exact this
 refine ⟨h0,?_⟩
 rcases Int.le_total 0 x with h | h
 ·exact Int.mul_le_mul h2 h2 h hB
 ·have:=Int.mul_le_mul (show -x≤B by omega) (show -x≤B by omega) (show 0≤-x by omega) hB
  rw [Int.neg_mul_neg] at this
  exact this
theorem sqV_pos {z:GRat} (h:¬ (z.num=0∧z.den=0)):0 < sqV z:=by
 unfold sqV
 have h1:∀ x:Int,x ≠ 0→0 < x * x:=by
  intro x hx
  rcases Int.lt_or_gt_of_ne hx with k | k
  ·have:=Int.mul_pos (a:=-x) (b:=-x) (by omega) (by omega)
   rw [Int.neg_mul_neg] at this
   exact this
  ·exact Int.mul_pos k k
 have h2:∀ x:Int,0≤x * x:=fun x=>(sq_le (B:=max x (-x)) (by omega) (by omega) (by omega)).1
 by_cases hz:z.num=0
 ·have:=h1 z.den (fun e=>h ⟨hz,e⟩)
  have:=h2 z.num
  omega
 ·have:=h1 z.num hz
  have:=h2 z.den
  omega
section
variable {z:GRat}
theorem sqV_bd (hz:bd 2073071593 z):0≤sqV z∧sqV z≤9223372036854775807∧wrapF .i64 (wrapF .i64 (z.num * z.num) + wrapF .i64 (z.den * z.den))=sqV z:=by
 obtain ⟨h1,h2,h3,h4⟩:=hz
 have k1:=sq_le h1 h2 (by decide)
 have k2:=sq_le h3 h4 (by decide)
 unfold sqV
 refine ⟨by omega,by omega,?_⟩
 rw [wrapF_i64 (x:=z.num * z.num) (by omega) (by omega),wrapF_i64 (x:=z.den * z.den) (by omega) (by omega),wrapF_i64 (by omega) (by omega)]
theorem f126_sq (hz:bd 2073071593 z):f126 z=some (sqV z):=by unfold f126; rw [(sqV_bd hz).2.2]
theorem f175_sq (hz:bd 2073071593 z):f175 z=some (sqV z):=by unfold f175; rw [(sqV_bd hz).2.2]
end
def isZ (z:GRat):Bool:=decide (z.num=0) && decide (z.den=0)
theorem isZ_not {z:GRat} (h:isZ z=false):¬ (z.num=0∧z.den=0):=by
 rintro ⟨h1,h2⟩
 unfold isZ at h
 rw [h1,h2] at h
 cases h
def lev (w:Int) (l:List GEl):GRat × Int:=if isZ (en0 (chn w l).1) then (⟨0,0⟩,17) else (low (sqV (chn w l).2) (sqV (en0 (chn w l).1)),0)
def trf (w:Int) (l:List GEl):GQuad × Int:=if isZ (en0 (chn w l).1) then (⟨0,0,0,0⟩,17) else (⟨(chn w l).2.num,(chn w l).2.den,(chn w l).1.m0,(chn w l).1.m1⟩,0)
structure okL (l:List GEl):Prop where
 n:l.length≤5
 e:∀ x∈l,okEl x
theorem okL_of {l:List GEl} (h:ladderE l=0):okL l:=⟨(ladderE_ok h).1,(ladderE_ok h).2⟩
section
variable {o:Option (List GEl)} {w:Int}
theorem chn_big (hw:1≤w∧w≤8) (h:okL (o.getD [])):bq 2073071593 (chn w (o.getD [])):=by
 have hb:=chn_bd hw h.n h.e
 have hm:=pw_mono h.n
 exact ⟨bd_mono hm hb.a,bd_mono hm hb.b,bd_mono hm hb.c,bd_mono hm hb.d,bd_mono hm hb.e⟩
theorem f132_eq {m:GMat} {d:GRat} {c0 c1:Int} (hm:bd 2073071593 (en0 m)) (hd:bd 2073071593 d):f132 m d c0 c1=some (if isZ (en0 m) then (⟨0,0⟩,17) else (low (sqV d) (sqV (en0 m)),0)):=by
 unfold f132
 have e:(decide (m.m0=0) && decide (m.m1=0))=isZ (en0 m):=rfl
 rw [e]
 cases hz:isZ (en0 m) with
 | true=>rfl
 | false=>
  have g1:=sqV_bd hd
  have g2:=sqV_bd hm
  have g3:=sqV_pos (isZ_not hz)
  rw [cond_false,f175_sq hd,obind_at,show (⟨m.m0,m.m1⟩:GRat)=en0 m from rfl,f175_sq hm,obind_at,f174_low g1.1 g1.2.1 g3 g2.2.1,obind_at]
  simp
theorem f131_eq (hl:ladderE (o.getD [])=0) (hw:checkRange w 1 8=0):f131 o w=some (lev w (o.getD [])):=by
 have h:=okL_of hl
 have hb:=chn_big (rangeZ hw) h
 unfold f131
 rw [f158_eq,obind_at,f172_eq,obind_at,f171_lit (by simp),obind_at,hl,hw]
 rw [show (decide (firstNZ [0,0]=0))=true from rfl,cond_true,f173_eq h.n (fun x hx=>(h.e x hx).k),obind_at,f132_eq hb.a hb.e,obind_at]
 unfold lev
 split <;> rfl
theorem f57_eq (hl:ladderE (o.getD [])=0) (hw:checkRange w 1 8=0):f57 o w=some (lev w (o.getD [])):=by
 unfold f57; rw [f131_eq hl hw]; rfl
theorem f60_eq (hl:ladderE (o.getD [])=0) (hw:checkRange w 1 8=0):f60 o w=some (trf w (o.getD [])):=by
 have h:=okL_of hl
 unfold f60 f134
 rw [f158_eq,obind_at,f172_eq,obind_at,f171_lit (by simp),obind_at,hl,hw]
 rw [show (decide (firstNZ [0,0]=0))=true from rfl,cond_true,f173_eq h.n (fun x hx=>(h.e x hx).k),obind_at]
 unfold f135 f136 trf
 have e:(decide ((chn w (o.getD [])).1.m0=0) && decide ((chn w (o.getD [])).1.m1=0))=isZ (en0 (chn w (o.getD [])).1):=rfl
 dsimp only
 rw [e]
 cases isZ (en0 (chn w (o.getD [])).1) <;> rfl
theorem lev_ok (hl:ladderE (o.getD [])=0) (hw:checkRange w 1 8=0):((lev w (o.getD [])).2=17)∨((lev w (o.getD [])).2=0∧0≤(lev w (o.getD [])).1.num∧(lev w (o.getD [])).1.num≤9223372036854775807∧1≤(lev w (o.getD [])).1.den∧(lev w (o.getD [])).1.den≤9223372036854775807):=by
 have hb:=chn_big (rangeZ hw) (okL_of hl)
 unfold lev
 cases hz:isZ (en0 (chn w (o.getD [])).1) with
 | true=>exact .inl rfl
 | false=>
  have g1:=sqV_bd hb.e
  have g2:=sqV_bd hb.a
  have g3:=sqV_pos (isZ_not hz)
  have:=low_ok g1.1 g3
  right
  simp only [Bool.false_eq_true,if_false]
  exact ⟨trivial,this.1,by omega,this.2.2.1,by omega⟩
end
theorem f46_eq {o:Option (List GEl)} (hn:(o.getD []).length≤1073741824):f46 o=some (nonNil (o.getD []),accO (o.getD [])):=by
 unfold f46
 rw [itO_map (o.getD []) (s46_0 o) id hn (fun a=>by unfold s46_0; rw [nlt_len]; rfl) (fun i x a hx hi ha=>by
  unfold s46_0
  rw [lt_len hi,cond_true,idxO_at hx,obind_at,own_step ha,wrap_succ hi (by omega)]; rfl),obind_at,List.map_id]
theorem f44_eq {o:Option (List GEl)}:∃ b,f44 o=some b∧(b=true→(o.getD []).length≤6):=by
 unfold f44
 by_cases h6:(6:Int) < ((o.getD []).length:Int)
 ·exact ⟨false,by rw [decide_eq_true h6]; rfl,fun h=>by cases h⟩
 ·rw [decide_eq_false h6,cond_false]
  obtain ⟨d,g1,g2⟩:=itO_allB (o.getD []) (s44_0 o) (fun x=>decide (x.kind.length≤60)) (fun d=>match d with | .inl _=>false | .inr _=>true) ⟨.inr _,by unfold s44_0; rw [nlt_len]; rfl,rfl⟩ (fun i x hx hi=>by
   unfold s44_0
   rw [lt_len hi,cond_true,idxO_at hx,obind_at,wrap_succ hi (show (o.getD []).length≤9223372036854775807 by omega)]
   by_cases hk:x.kind.length≤60
   ·left
    rw [decide_eq_true hk,decide_eq_false (by omega)]
    exact ⟨rfl,rfl⟩
   ·right
    rw [decide_eq_false hk,decide_eq_true (by omega)]
    exact ⟨rfl,.inl (),rfl,rfl⟩)
  rw [g1,obind_at]
  rcases d with d | d
  ·exact ⟨false,rfl,fun h=>by cases h⟩
  ·exact ⟨true,rfl,fun _=>by omega⟩
def branchE (l:List GEl):Int:=firstNZ [ladderE l,whenE (decide ((2:Int) < (l.length:Int))) 5]
theorem f121_eq {o:Option (List GEl)}:f121 o=some (branchE (o.getD [])):=by
 unfold f121 branchE
 rw [f158_eq,obind_at,f106_eq,obind_at,f105_lit (by simp),obind_at]
theorem f49_eq {o:Option (List GEl)}:f49 o=some (branchE (o.getD [])):=by
 unfold f49 branchE
 rw [f103_eq,obind_at,f101_eq,obind_at,f100_lit (by simp),obind_at]
theorem branchE_ok {l:List GEl} (h:branchE l=0):ladderE l=0∧l.length≤2:=by
 unfold branchE at h
 rw [first_zero] at h
 have h1:=h (ladderE l) (by simp)
 have h2:=h (whenE (decide ((2:Int) < (l.length:Int))) 5) (by simp)
 refine ⟨h1,?_⟩
 by_cases k:(2:Int) < (l.length:Int)
 ·rw [decide_eq_true k] at h2; cases h2
 ·omega
end Go.Z
