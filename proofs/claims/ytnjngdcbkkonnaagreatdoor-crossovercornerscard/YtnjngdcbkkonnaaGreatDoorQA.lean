/- Chapter 4. -/
import Derived.Test.YtnjngdcbkkonnaaGreatDoorPQ
set_option linter.unusedVariables false
set_option linter.unusedSimpArgs false
set_option maxRecDepth 100000
set_option maxHeartbeats 1000000
namespace Go.Z
open Go Go.Abs
def xm (a b:GRat):GRat:=⟨a.num * b.num - a.den * b.den,a.num * b.den + a.den * b.num⟩
def xa (a b:GRat):GRat:=⟨a.num + b.num,a.den + b.den⟩
def xv (w:Int) (x:GEl):GRat:=⟨x.a,w * x.b⟩
def rst (w:Int) (q:GRat × GRat) (x:GEl):GRat × GRat:=if x.kind=kSe then (q.1,xa (xm q.1 (xv w x)) q.2) else (xa q.1 (xm q.2 (xv w x)),q.2)
def row (w:Int) (q:GRat × GRat) (l:List GEl):GRat × GRat:=l.foldl (rst w) q
theorem qiy {B:Int} {z:GRat} (hB2:B≤100000000000) (hz:bd B z):cm z ⟨1,0⟩=z:=by
 obtain ⟨z1,z2,z3,z4⟩:=hz
 unfold cm
 simp only [Int.mul_one,Int.mul_zero]
 rw [za (x:=z.num) (by omega) (by omega),za (x:=0) (by omega) (by omega),za (x:=z.den) (by omega) (by omega),za (by omega) (by omega),za (by omega) (by omega)]
 simp
theorem qrb {z:GRat}:cm z ⟨0,0⟩=⟨0,0⟩:=by unfold cm; simp only [Int.mul_zero]; rfl
theorem qvv {A B:Int} {x y:GRat} (hA:0≤A) (hB:0≤B) (h:A + B≤9000000000000000000) (hx:bd A x) (hy:bd B y):ca x y=xa x y:=by
 obtain ⟨x1,x2,x3,x4⟩:=hx
 obtain ⟨y1,y2,y3,y4⟩:=hy
 unfold ca xa
 rw [za (by omega) (by omega),za (by omega) (by omega)]
theorem qzj {x:GEl} (h:qij x) (hp:k8 x.kind=false):x.kind=kSe∨(¬ x.kind=kSe∧x.kind=kSh):=by
 have hk:=h.k
 unfold isK at hk
 unfold k8 at hp
 simp only [Bool.or_eq_true,Bool.or_eq_false_iff,decide_eq_true_eq,decide_eq_false_iff_not] at hk hp
 rcases hk with ((h1 | h1) | h1) | h1
 ·exact absurd h1 hp.1
 ·exact .inl h1
 ·exact .inr ⟨by rw [h1]; decide,h1⟩
 ·exact absurd h1 hp.2
theorem jbi {B w:Int} {q:yb × GRat} {x:GEl} (hB:0≤B) (hB2:B≤100000000000) (hw:1≤w∧w≤8) (hx:qij x) (hp:k8 x.kind=false) (h:bq B q):
  (en0 (stp w q x).1,en1 (stp w q x).1)=rst w (en0 q.1,en1 q.1) x∧(stp w q x).2=q.2:=by
 obtain ⟨hv,hv'⟩:=q55 hw hx
 have hvx:vOf w x=xv w x:=hv'
 refine ⟨?_,by unfold stp; rw [hp]; rfl⟩
 unfold stp rst
 dsimp only
 have m1':=qq9 hB hB2 h.a hv
 have m2':=qq9 hB hB2 h.b hv
 have z0:bd 0 (⟨0,0⟩:GRat):=⟨by decide,by decide,by decide,by decide⟩
 rcases qzj hx hp with hk | ⟨hn,hk⟩
 ·rw [if_pos hk]
  unfold kM
  rw [if_pos hk]
  have e0:en0 (mp q.1 ⟨1,0,(vOf w x).num,(vOf w x).den,0,0,1,0⟩)=ca (cm (en0 q.1) ⟨1,0⟩) (cm (en1 q.1) ⟨0,0⟩):=rfl
  have e1:en1 (mp q.1 ⟨1,0,(vOf w x).num,(vOf w x).den,0,0,1,0⟩)=ca (cm (en0 q.1) (vOf w x)) (cm (en1 q.1) ⟨1,0⟩):=rfl
  rw [e0,e1,qiy hB2 h.a,qiy hB2 h.b,qrb,qvv hB (by decide) (by omega) h.a z0,qvv (A:=72 * B) (by omega) hB (by omega) m1'.1 h.b,m1'.2,← hvx]
  unfold xa xm
  simp
 ·rw [if_neg hn]
  unfold kM
  rw [if_neg hn,if_pos hk]
  have e0:en0 (mp q.1 ⟨1,0,0,0,(vOf w x).num,(vOf w x).den,1,0⟩)=ca (cm (en0 q.1) ⟨1,0⟩) (cm (en1 q.1) (vOf w x)):=rfl
  have e1:en1 (mp q.1 ⟨1,0,0,0,(vOf w x).num,(vOf w x).den,1,0⟩)=ca (cm (en0 q.1) ⟨0,0⟩) (cm (en1 q.1) ⟨1,0⟩):=rfl
  rw [e0,e1,qiy hB2 h.a,qiy hB2 h.b,qrb,qvv (B:=72 * B) hB (by omega) (by omega) h.a m2'.1,qvv (A:=0) (by decide) hB (by omega) z0 h.b,m2'.2,← hvx]
  unfold xa xm
  simp
theorem qwx {w:Int} (hw:1≤w∧w≤8):∀ {l:List GEl} {k:Nat} {q:yb × GRat},(∀ x∈l,qij x)→(∀ x∈l,k8 x.kind=false)→k + l.length≤5→bq (pw k) q →
  (en0 (l.foldl (stp w) q).1,en1 (l.foldl (stp w) q).1)=row w (en0 q.1,en1 q.1) l∧(l.foldl (stp w) q).2=q.2
 | [],k,q,_,_,_,h=>⟨rfl,rfl⟩
 | x::l,k,q,ho,hp,hk,h=>by
  rw [List.length_cons] at hk
  have hb:pw k≤28398241:=by
   have:k≤4:=by omega
   match k,this with
   | 0,_=>decide
   | 1,_=>decide
   | 2,_=>decide
   | 3,_=>decide
   | 4,_=>decide
  have hp0:=qyp k
  obtain ⟨g1,g2⟩:=jbi (by omega) (by omega) hw (ho x (List.mem_cons_self ..)) (hp x (List.mem_cons_self ..)) h
  obtain ⟨i1,i2⟩:=qwx hw (l:=l) (k:=k + 1) (q:=stp w q x) (fun y hy=>ho y (List.mem_cons_of_mem _ hy)) (fun y hy=>hp y (List.mem_cons_of_mem _ hy)) (by omega) (q3p (by omega) (by omega) hw (ho x (List.mem_cons_self ..)) h)
  rw [List.foldl_cons]
  refine ⟨?_,by rw [i2,g2]⟩
  rw [i1,g1]
  rfl
def r0:GRat × GRat:=(⟨1,0⟩,⟨0,0⟩)
def sq0 (w:Int) (l:List GEl):Int:=sqV (row w r0 l).1
theorem jaa {w:Int} {l:List GEl} (hw:1≤w∧w≤8) (hl:l.length≤5) (ho:∀ x∈l,qij x) (hp:∀ x∈l,k8 x.kind=false):
  en0 (chn w l).1=(row w r0 l).1∧(chn w l).2=⟨1,0⟩:=by
 have h0:bq (pw 0) (m1,⟨1,0⟩):=⟨⟨by decide,by decide,by decide,by decide⟩,⟨by decide,by decide,by decide,by decide⟩,⟨by decide,by decide,by decide,by decide⟩,⟨by decide,by decide,by decide,by decide⟩,⟨by decide,by decide,by decide,by decide⟩⟩
 obtain ⟨g1,g2⟩:=qwx hw ho hp (k:=0) (by omega) h0
 exact ⟨congrArg Prod.fst g1,g2⟩
theorem jbq {n:Int} (h:0 < n):low 1 n=⟨1,n⟩:=by
 unfold low
 have:Nat.gcd (1:Int).toNat n.toNat=1:=Nat.gcd_one_left _
 rw [this]
 simp
theorem q48 {w:Int} {l:List GEl} (hw:1≤w∧w≤8) (hl:zy l=0) (hp:∀ x∈l,k8 x.kind=false) (h:(lev w l).2=0):lev w l=(⟨1,sq0 w l⟩,0)∧0 < sq0 w l:=by
 obtain ⟨k1,k2⟩:=qg4 hl
 obtain ⟨g1,g2⟩:=jaa hw k1 k2 hp
 unfold lev at h ⊢
 cases hz:isZ (en0 (chn w l).1) with
 | true=>rw [hz] at h; cases h
 | false=>
  have hpos:=qtd (qtp hz)
  rw [g1] at hpos
  simp only [Bool.false_eq_true,if_false]
  rw [g1,g2,show sqV (⟨1,0⟩:GRat)=1 from rfl,jbq hpos]
  exact ⟨rfl,hpos⟩
theorem q0o {w:Int}:∀ (l:List GEl),∃ α β:GRat,∀ p q:GRat,(row w (p,q) l).1=xa (xm α p) (xm β q)
 | []=>⟨⟨1,0⟩,⟨0,0⟩,fun p q=>by unfold row xa xm; simp⟩
 | x::l=>by
  obtain ⟨α,β,h⟩:=q0o (w:=w) l
  by_cases hk:x.kind=kSe
  ·refine ⟨xa α (xm β (xv w x)),β,fun p q=>?_⟩
   have e:row w (p,q) (x::l)=row w (p,xa (xm p (xv w x)) q) l:=by unfold row rst; rw [List.foldl_cons,if_pos hk]
   rw [e,h]
   unfold xa xm
   simp only [GRat.mk.injEq]
   generalize xv w x=v
   constructor <;> grind
  ·refine ⟨α,xa (xm α (xv w x)) β,fun p q=>?_⟩
   have e:row w (p,q) (x::l)=row w (xa p (xm q (xv w x)),q) l:=by unfold row rst; rw [List.foldl_cons,if_neg hk]
   rw [e,h]
   unfold xa xm
   simp only [GRat.mk.injEq]
   generalize xv w x=v
   constructor <;> grind
theorem q0e {w:Int} {q:GRat × GRat} {a b:List GEl}:row w q (a++b)=row w (row w q a) b:=by unfold row; rw [List.foldl_append]
theorem qz9 {w:Int} (k:List UInt8) (pre post:List GEl):∃ c d:GRat,∀ a b:Int,(row w r0 (pre++⟨k,a,b⟩::post)).1=xa c (xm d ⟨a,w * b⟩):=by
 obtain ⟨α,β,h⟩:=q0o (w:=w) post
 rcases hpq:row w r0 pre with ⟨p,q⟩
 by_cases hk:k=kSe
 ·refine ⟨xa (xm α p) (xm β q),xm β p,fun a b=>?_⟩
  have e:row w r0 (pre++⟨k,a,b⟩::post)=row w (p,xa (xm p ⟨a,w * b⟩) q) post:=by
   rw [q0e,hpq]; unfold row rst; rw [List.foldl_cons,if_pos hk]; rfl
  rw [e,h]
  unfold xa xm
  simp only [GRat.mk.injEq]
  generalize w * b=y
  constructor <;> grind
 ·refine ⟨xa (xm α p) (xm β q),xm α q,fun a b=>?_⟩
  have e:row w r0 (pre++⟨k,a,b⟩::post)=row w (xa p (xm q ⟨a,w * b⟩),q) post:=by
   rw [q0e,hpq]; unfold row rst; rw [List.foldl_cons,if_neg hk]; rfl
  rw [e,h]
  unfold xa xm
  simp only [GRat.mk.injEq]
  generalize w * b=y
  constructor <;> grind
theorem mid {u v m k:Int} (h:u + v=2 * m + 2 * k) (hk:0≤k):m≤u∨m≤v:=by omega
theorem qvh (x:Int):0≤x * x:=by
 rcases Int.le_total 0 x with h | h
 ·exact Int.mul_nonneg h h
 ·have:=Int.mul_nonneg (show 0≤-x by omega) (show 0≤-x by omega)
  rwa [Int.neg_mul_neg] at this
theorem jfp {w:Int} (k:List UInt8) (pre post:List GEl) (a b:Int):sq0 w (pre++⟨k,a,b⟩::post)≤sq0 w (pre++⟨k,a - 1,b⟩::post)∨sq0 w (pre++⟨k,a,b⟩::post)≤sq0 w (pre++⟨k,a + 1,b⟩::post):=by
 obtain ⟨c,d,h⟩:=qz9 (w:=w) k pre post
 unfold sq0
 rw [h,h,h]
 have h1:=qvh d.num
 have h2:=qvh d.den
 refine mid (k:=d.num * d.num + d.den * d.den) ?_ (by omega)
 unfold sqV xa xm
 dsimp only
 generalize w * b=y
 grind
theorem jc2 {w:Int} (k:List UInt8) (pre post:List GEl) (a b:Int):sq0 w (pre++⟨k,a,b⟩::post)≤sq0 w (pre++⟨k,a,b - 1⟩::post)∨sq0 w (pre++⟨k,a,b⟩::post)≤sq0 w (pre++⟨k,a,b + 1⟩::post):=by
 obtain ⟨c,d,h⟩:=qz9 (w:=w) k pre post
 unfold sq0
 rw [h,h,h]
 have h1:=qvh (w * d.num)
 have h2:=qvh (w * d.den)
 refine mid (k:=(w * d.num) * (w * d.num) + (w * d.den) * (w * d.den)) ?_ (by omega)
 unfold sqV xa xm
 dsimp only
 grind
theorem qqz {P:Int→Int} {a s:Int} (hs:0≤s∧s≤1) (hc:∀ x,P x≤P (x - 1)∨P x≤P (x + 1)) {x:Int} (hx:x∈zn a s false):∃ y∈zn a s true,P x≤P y:=by
 unfold zn at hx ⊢
 by_cases h0:s=0
 ·rw [if_pos h0] at hx ⊢
  exact ⟨x,hx,Int.le_refl _⟩
 ·have h1:s=1:=by omega
  subst h1
  rw [if_neg h0] at hx ⊢
  simp only [Bool.false_eq_true,if_false,if_true,List.mem_cons,List.not_mem_nil,or_false] at hx ⊢
  rcases hx with rfl | rfl | rfl
  ·exact ⟨_,.inl rfl,Int.le_refl _⟩
  ·rcases hc x with h | h
   ·exact ⟨_,.inl rfl,h⟩
   ·exact ⟨_,.inr rfl,h⟩
  ·exact ⟨_,.inr rfl,Int.le_refl _⟩
theorem q2g {w:Int} {p:qi} (hp:okP p) {v:GEl} (hv:v∈yj p false) (pre post:List GEl):∃ u∈yj p true,sq0 w (pre++v::post)≤sq0 w (pre++u::post):=by
 obtain ⟨⟨a1,a2,a3,a4⟩,b1,b2,b3,b4⟩:=hp
 unfold yj at hv ⊢
 obtain ⟨a,ha,hv⟩:=List.mem_flatMap.1 hv
 obtain ⟨b,hb,rfl⟩:=List.mem_map.1 hv
 obtain ⟨a',ha',h1⟩:=qqz (P:=fun x=>sq0 w (pre++⟨p.kd,x,b⟩::post)) ⟨a3,a4⟩ (fun x=>jfp p.kd pre post x b) ha
 obtain ⟨b',hb',h2⟩:=qqz (P:=fun x=>sq0 w (pre++⟨p.kd,a',x⟩::post)) ⟨b3,b4⟩ (fun x=>jc2 p.kd pre post a' x) hb
 exact ⟨⟨p.kd,a',b'⟩,List.mem_flatMap.2 ⟨a',ha',List.mem_map.2 ⟨b',hb',rfl⟩⟩,Int.le_trans h1 h2⟩
theorem qlm {c:Bool}:∀ {qs:List qi} {x:List GEl},j9 c qs x=(j9 c qs []).map fun s=>x++s
 | [],x=>by simp [j9]
 | p::qs,x=>by
  unfold j9
  rw [List.map_flatMap]
  congr 1
  funext v
  rw [qlm (x:=x++[v]),qlm (x:=[]++[v]),List.map_map]
  congr 1
  funext s
  simp
theorem qr9 {w:Int}:∀ {qs:List qi} {pre x:List GEl},(∀ q∈qs,okP q)→x∈j9 false qs pre→∃ z∈j9 true qs pre,sq0 w x≤sq0 w z
 | [],pre,x,_,h=>⟨x,h,Int.le_refl _⟩
 | p::qs,pre,x,hq,h=>by
  obtain ⟨v,hv,hx⟩:=List.mem_flatMap.1 h
  obtain ⟨z,hz,h1⟩:=qr9 (w:=w) (fun q hq'=>hq q (List.mem_cons_of_mem _ hq')) hx
  rw [qlm] at hz
  obtain ⟨s,hs,rfl⟩:=List.mem_map.1 hz
  obtain ⟨u,hu,h2⟩:=q2g (w:=w) (hq p (List.mem_cons_self ..)) hv pre s
  refine ⟨pre++[u]++s,List.mem_flatMap.2 ⟨u,hu,?_⟩,?_⟩
  ·rw [qlm]
   exact List.mem_map.2 ⟨s,hs,rfl⟩
  ·have e1:pre++[v]++s=pre++v::s:=by simp
   have e2:pre++[u]++s=pre++u::s:=by simp
   rw [e1] at h1
   rw [e2]
   exact Int.le_trans h1 h2
def leR (a b:GRat):Prop:=ya b a=false
theorem qkf {a b:GRat}:leR a b↔a.num * b.den≤b.num * a.den:=by
 unfold leR ya
 rw [decide_eq_false_iff_not]
 omega
theorem ql8 {a:GRat}:leR a a:=qkf.2 (Int.le_refl _)
theorem qja {a b c:GRat} (ha:okR a) (hb:okR b) (hc:okR c) (h1:leR a b) (h2:leR b c):leR a c:=by
 rw [qkf] at h1 h2 ⊢
 have k1:a.num * b.den * c.den≤b.num * a.den * c.den:=Int.mul_le_mul_of_nonneg_right h1 (by have:=hc.c; omega)
 have k2:b.num * c.den * a.den≤c.num * b.den * a.den:=Int.mul_le_mul_of_nonneg_right h2 (by have:=ha.c; omega)
 have e1:b.num * a.den * c.den=b.num * c.den * a.den:=by grind
 have k3:(a.num * c.den) * b.den≤(c.num * a.den) * b.den:=by
  have e2:(a.num * c.den) * b.den=a.num * b.den * c.den:=by grind
  have e3:(c.num * a.den) * b.den=c.num * b.den * a.den:=by grind
  omega
 exact Int.le_of_mul_le_mul_right k3 (by have:=hb.c; omega)
theorem qt8 {a b:GRat} (h:ya a b=true):leR a b:=by
 rw [qkf]
 have:=of_decide_eq_true h
 omega
def qo8 (w:Int) (l:List (List GEl)) (s:jy):Prop:=
 (∃ x∈l,qlo s=(lev w x).1)∧(∃ x∈l,qhi s=(lev w x).1)∧∀ x∈l,leR (qlo s) (lev w x).1∧leR (lev w x).1 (qhi s)
theorem qih {w:Int}:∀ {l:List (List GEl)} {s:Option jy},ext w l s=none↔∃ x∈l,(lev w x).2 ≠ 0
 | [],s=>by simp [ext]
 | x::l,s=>by
  unfold ext
  by_cases h:(lev w x).2=0
  ·rw [if_pos h,qih]
   constructor
   ·rintro ⟨y,hy,h1⟩; exact ⟨y,List.mem_cons_of_mem _ hy,h1⟩
   ·rintro ⟨y,hy,h1⟩
    rcases List.mem_cons.1 hy with rfl | hy
    ·exact absurd h h1
    ·exact ⟨y,hy,h1⟩
  ·rw [if_neg h]
   exact ⟨fun _=>⟨x,List.mem_cons_self ..,h⟩,fun _=>rfl⟩
theorem qef {w:Int} {x:List GEl} (hl:zy x=0) (hw:jd w 1 8=0) (h:(lev w x).2=0):okR (lev w x).1:=by
 rcases qoi hl hw with k | k
 ·rw [k] at h; cases h
 ·exact k.2
theorem q38 {w:Int} (hw:jd w 1 8=0):∀ {l:List (List GEl)} {s:jy} {L:List (List GEl)} {r},(∀ x∈l,zy x=0)→(∀ x∈L,okR (lev w x).1)→qo8 w L s→ext w l (some s)=some r→∃ q,r=some q∧qo8 w (L++l) q
 | [],s,L,r,hl,ho,h1,h=>by
  cases h
  exact ⟨s,rfl,by rw [List.append_nil]; exact h1⟩
 | x::l,s,L,r,hl,ho,⟨h1,h2,h3⟩,h=>by
  unfold ext at h
  by_cases hx:(lev w x).2=0
  ·rw [if_pos hx] at h
   have hv:=qef (hl x (List.mem_cons_self ..)) hw hx
   obtain ⟨y1,hy1,e1⟩:=h1
   obtain ⟨y2,hy2,e2⟩:=h2
   have o1:okR (qlo s):=by rw [e1]; exact ho y1 hy1
   have o2:okR (qhi s):=by rw [e2]; exact ho y2 hy2
   have o:∀ z∈L++[x],okR (lev w z).1:=by
    intro z hz
    rcases List.mem_append.1 hz with hz | hz
    ·exact ho z hz
    ·rw [List.mem_singleton.1 hz]; exact hv
   have hq:qo8 w (L++[x]) (qjs (some s) (lev w x).1):=by
    have eq1:qlo (qjs (some s) (lev w x).1)=cond (ya (lev w x).1 (qlo s)) (lev w x).1 (qlo s):=rfl
    have eq2:qhi (qjs (some s) (lev w x).1)=cond (ya (qhi s) (lev w x).1) (lev w x).1 (qhi s):=rfl
    refine ⟨?_,?_,fun z hz=>?_⟩
    ·rw [eq1]
     cases ya (lev w x).1 (qlo s) with
     | true=>exact ⟨x,by simp,rfl⟩
     | false=>exact ⟨y1,by simp [hy1],e1⟩
    ·rw [eq2]
     cases ya (qhi s) (lev w x).1 with
     | true=>exact ⟨x,by simp,rfl⟩
     | false=>exact ⟨y2,by simp [hy2],e2⟩
    ·rw [eq1,eq2]
     have oz:=o z hz
     constructor
     ·cases hb:ya (lev w x).1 (qlo s) with
      | true=>
       rcases List.mem_append.1 hz with hz | hz
       ·exact qja hv o1 oz (qt8 hb) (h3 z hz).1
       ·rw [List.mem_singleton.1 hz]; exact ql8
      | false=>
       rcases List.mem_append.1 hz with hz | hz
       ·exact (h3 z hz).1
       ·rw [List.mem_singleton.1 hz]; exact hb
     ·cases hb:ya (qhi s) (lev w x).1 with
      | true=>
       rcases List.mem_append.1 hz with hz | hz
       ·exact qja oz o2 hv (h3 z hz).2 (qt8 hb)
       ·rw [List.mem_singleton.1 hz]; exact ql8
      | false=>
       rcases List.mem_append.1 hz with hz | hz
       ·exact (h3 z hz).2
       ·rw [List.mem_singleton.1 hz]; exact hb
   obtain ⟨q,k1,k2⟩:=q38 hw (L:=L++[x]) (fun y hy=>hl y (List.mem_cons_of_mem _ hy)) o hq h
   refine ⟨q,k1,?_⟩
   rwa [List.append_assoc] at k2
  ·rw [if_neg hx] at h; cases h
theorem qsh {w:Int} (hw:jd w 1 8=0) {l:List (List GEl)} {r} (hn:l ≠ []) (hl:∀ x∈l,zy x=0) (h:ext w l none=some r):∃ q,r=some q∧qo8 w l q:=by
 cases l with
 | nil=>exact absurd rfl hn
 | cons x l=>
  unfold ext at h
  by_cases hx:(lev w x).2=0
  ·rw [if_pos hx] at h
   have hv:=qef (hl x (List.mem_cons_self ..)) hw hx
   have:=q38 hw (L:=[x]) (fun y hy=>hl y (List.mem_cons_of_mem _ hy)) (by simpa using hv) (s:=qjs none (lev w x).1) ⟨⟨x,by simp,rfl⟩,⟨x,by simp,rfl⟩,by intro z hz; rw [List.mem_singleton.1 hz]; exact ⟨ql8,ql8⟩⟩ h
   exact this
  ·rw [if_neg hx] at h; cases h
theorem qk5 {c:Bool}:∀ {qs:List qi} {x:List GEl},j9 c qs x ≠ []
 | [],x=>by simp [j9]
 | p::qs,x=>by
  unfold j9
  intro h
  rw [List.flatMap_eq_nil_iff] at h
  obtain ⟨v,hv⟩:=List.exists_mem_of_ne_nil _ (qtf (p:=p) (c:=c))
  exact qk5 (h v hv)
theorem qce:∀ {qs:List qi} {x y:List GEl},(∀ q∈qs,okP q)→y∈j9 true qs x→y∈j9 false qs x
 | [],x,y,_,h=>h
 | p::qs,x,y,hq,h=>by
  obtain ⟨v,hv,hy⟩:=List.mem_flatMap.1 h
  exact List.mem_flatMap.2 ⟨v,qwq (hq p (List.mem_cons_self ..)) hv,qce (fun q hq'=>hq q (List.mem_cons_of_mem _ hq')) hy⟩
theorem q4j {c:Bool} {qs:List qi} (hp:∀ q∈qs,k8 q.kd=false) {x:List GEl} (hx:x∈j9 c qs []):∀ e∈x,k8 e.kind=false:=by
 obtain ⟨_,h⟩:=qp7 hx
 intro e he
 rcases h e he with h | ⟨q,hq,hv⟩
 ·cases h
 ·unfold yj at hv
  obtain ⟨a,_,hv⟩:=List.mem_flatMap.1 hv
  obtain ⟨b,_,rfl⟩:=List.mem_map.1 hv
  exact hp q hq
theorem quw {w:Int} (hw:jd w 1 8=0) {qs:List qi} (ho:∀ q∈qs,okP q) (hp:∀ q∈qs,k8 q.kd=false) (hl:∀ x∈j9 false qs [],zy x=0) {s t:jy}
  (hs:ext w (j9 false qs []) none=some (some s)) (ht:ext w (j9 true qs []) none=some (some t)):qlo t=qlo s:=by
 have hl':∀ x∈j9 true qs [],zy x=0:=fun x hx=>hl x (qce ho hx)
 obtain ⟨_,e1,k1⟩:=qsh hw qk5 hl hs
 obtain ⟨_,e2,k2⟩:=qsh hw qk5 hl' ht
 cases e1
 cases e2
 have hz:∀ x∈j9 false qs [],(lev w x).2=0:=by
  intro x hx
  by_cases h:(lev w x).2=0
  ·exact h
  ·have:=(qih (s:=none)).2 ⟨x,hx,h⟩
   rw [hs] at this; cases this
 have hw':=qb4 hw
 have lv:∀ x∈j9 false qs [],(lev w x).1=⟨1,sq0 w x⟩∧0 < sq0 w x:=by
  intro x hx
  obtain ⟨g1,g2⟩:=q48 hw' (hl x hx) (q4j hp hx) (hz x hx)
  exact ⟨by rw [g1],g2⟩
 obtain ⟨x,hx,ex⟩:=k1.1
 obtain ⟨y,hy,ey⟩:=k2.1
 have hy':=qce ho hy
 have a1:=(k1.2.2 y hy').1
 obtain ⟨z,hzm,hzl⟩:=qr9 (w:=w) ho hx
 have a2:=(k2.2.2 z hzm).1
 have lx:=lv x hx
 have ly:=lv y hy'
 have lz:=lv z (qce ho hzm)
 rw [ex,lx.1,ly.1,qkf] at a1
 rw [ey,ly.1,lz.1,qkf] at a2
 dsimp only at a1 a2
 rw [ex,ey,lx.1,ly.1]
 congr 1
 omega
end Go.Z
