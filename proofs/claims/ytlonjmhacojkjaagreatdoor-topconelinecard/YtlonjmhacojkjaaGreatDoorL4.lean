/-
  Names: their runs.
-/
import Derived.Test.YtlonjmhacojkjaaGreatDoorL2
set_option linter.unusedVariables false
set_option linter.unusedSimpArgs false
set_option maxRecDepth 100000
namespace Go.Z
open Go Go.Abs
def nameB (i:Nat) (x:Int):Bool:=decide (65≤x∧x≤90) || decide (97≤x∧x≤122) || (decide (i ≠ 0) && (decide (48≤x∧x≤57) || decide (x=95)))
theorem kinds (x:Int):x≤47∨(48≤x∧x≤57)∨(58≤x∧x≤64)∨(65≤x∧x≤90)∨(91≤x∧x≤94)∨x=95∨x=96∨(97≤x∧x≤122)∨123≤x:=by omega
theorem b72 (s:List UInt8) (ex:Env) (i:Nat) (x:Int) (w:Nat) (hd:decodeA s i=(x.toNat,w)) (hx0:0≤x) (hi:i < s.length):
  X pr c72_0 ⟨(0,.str s,false)::(8,.ptr 0 0,false)::ex,[.iter s i]⟩=some (if nameB i x=true then (.normal,⟨[(0,.str s,false),(8,.ptr 0 0,false),(46,.bool false,false)],[.iter s (i + w)]⟩) else (.ret,⟨[(2,.bool false,false)],[.iter s (i + w)]⟩)):=by
 have hd1:((decodeA s i).1:Int)=x:=by rw [hd]; simp; omega
 have hd2:(decodeA s i).2=w:=by rw [hd]
 have hit:=fun h b=>iterR_in (h:=h) (b:=b) hi
 by_cases hi0:i=0
 ·have hz:((i:Int)=0)=True:=by simp [hi0]
  rcases kinds x with k | k | k | k | k | k | k | k | k
  ·have f1000:¬ ((65:Int)≤x):=by omega
   have f1001:(x≤90):=by omega
   have f1002:¬ ((97:Int)≤x):=by omega
   have f1003:(x≤122):=by omega
   have f1004:¬ ((48:Int)≤x):=by omega
   have f1005:(x≤57):=by omega
   have f1006:¬ (x=95):=by omega
   have hb:nameB i x=false:=by simp [nameB,hi0]; omega
   simp only [hb,if_true,Bool.false_eq_true,if_false]
   simp only [go_sem,seval,c72_0,hit,hd1,hd2,f1000,f1001,f1002,f1003,f1004,f1005,f1006,hz]
  ·have f1000:¬ ((65:Int)≤x):=by omega
   have f1001:(x≤90):=by omega
   have f1002:¬ ((97:Int)≤x):=by omega
   have f1003:(x≤122):=by omega
   have f1004:((48:Int)≤x):=by omega
   have f1005:(x≤57):=by omega
   have f1006:¬ (x=95):=by omega
   have hb:nameB i x=false:=by simp [nameB,hi0]; omega
   simp only [hb,if_true,Bool.false_eq_true,if_false]
   simp only [go_sem,seval,c72_0,hit,hd1,hd2,f1000,f1001,f1002,f1003,f1004,f1005,f1006,hz]
  ·have f1000:¬ ((65:Int)≤x):=by omega
   have f1001:(x≤90):=by omega
   have f1002:¬ ((97:Int)≤x):=by omega
   have f1003:(x≤122):=by omega
   have f1004:((48:Int)≤x):=by omega
   have f1005:¬ (x≤57):=by omega
   have f1006:¬ (x=95):=by omega
   have hb:nameB i x=false:=by simp [nameB,hi0]; omega
   simp only [hb,if_true,Bool.false_eq_true,if_false]
   simp only [go_sem,seval,c72_0,hit,hd1,hd2,f1000,f1001,f1002,f1003,f1004,f1005,f1006,hz]
  ·have f1000:((65:Int)≤x):=by omega
   have f1001:(x≤90):=by omega
   have f1002:¬ ((97:Int)≤x):=by omega
   have f1003:(x≤122):=by omega
   have f1004:((48:Int)≤x):=by omega
   have f1005:¬ (x≤57):=by omega
   have f1006:¬ (x=95):=by omega
   have hb:nameB i x=true:=by simp [nameB,hi0]; omega
   simp only [hb,if_true,Bool.false_eq_true,if_false]
   simp only [go_sem,seval,c72_0,hit,hd1,hd2,f1000,f1001,f1002,f1003,f1004,f1005,f1006,hz]
  ·have f1000:((65:Int)≤x):=by omega
   have f1001:¬ (x≤90):=by omega
   have f1002:¬ ((97:Int)≤x):=by omega
   have f1003:(x≤122):=by omega
   have f1004:((48:Int)≤x):=by omega
   have f1005:¬ (x≤57):=by omega
   have f1006:¬ (x=95):=by omega
   have hb:nameB i x=false:=by simp [nameB,hi0]; omega
   simp only [hb,if_true,Bool.false_eq_true,if_false]
   simp only [go_sem,seval,c72_0,hit,hd1,hd2,f1000,f1001,f1002,f1003,f1004,f1005,f1006,hz]
  ·have f1000:((65:Int)≤x):=by omega
   have f1001:¬ (x≤90):=by omega
   have f1002:¬ ((97:Int)≤x):=by omega
   have f1003:(x≤122):=by omega
   have f1004:((48:Int)≤x):=by omega
   have f1005:¬ (x≤57):=by omega
   have f1006:(x=95)=True:=by simp [k]
   have hb:nameB i x=false:=by simp [nameB,hi0]; omega
   simp only [hb,if_true,Bool.false_eq_true,if_false]
   simp only [go_sem,seval,c72_0,hit,hd1,hd2,f1000,f1001,f1002,f1003,f1004,f1005,f1006,hz]
  ·have f1000:((65:Int)≤x):=by omega
   have f1001:¬ (x≤90):=by omega
   have f1002:¬ ((97:Int)≤x):=by omega
   have f1003:(x≤122):=by omega
   have f1004:((48:Int)≤x):=by omega
   have f1005:¬ (x≤57):=by omega
   have f1006:¬ (x=95):=by omega
   have hb:nameB i x=false:=by simp [nameB,hi0]; omega
   simp only [hb,if_true,Bool.false_eq_true,if_false]
   simp only [go_sem,seval,c72_0,hit,hd1,hd2,f1000,f1001,f1002,f1003,f1004,f1005,f1006,hz]
  ·have f1000:((65:Int)≤x):=by omega
   have f1001:¬ (x≤90):=by omega
   have f1002:((97:Int)≤x):=by omega
   have f1003:(x≤122):=by omega
   have f1004:((48:Int)≤x):=by omega
   have f1005:¬ (x≤57):=by omega
   have f1006:¬ (x=95):=by omega
   have hb:nameB i x=true:=by simp [nameB,hi0]; omega
   simp only [hb,if_true,Bool.false_eq_true,if_false]
   simp only [go_sem,seval,c72_0,hit,hd1,hd2,f1000,f1001,f1002,f1003,f1004,f1005,f1006,hz]
  ·have f1000:((65:Int)≤x):=by omega
   have f1001:¬ (x≤90):=by omega
   have f1002:((97:Int)≤x):=by omega
   have f1003:¬ (x≤122):=by omega
   have f1004:((48:Int)≤x):=by omega
   have f1005:¬ (x≤57):=by omega
   have f1006:¬ (x=95):=by omega
   have hb:nameB i x=false:=by simp [nameB,hi0]; omega
   simp only [hb,if_true,Bool.false_eq_true,if_false]
   simp only [go_sem,seval,c72_0,hit,hd1,hd2,f1000,f1001,f1002,f1003,f1004,f1005,f1006,hz]
 ·have hz:¬ (i:Int)=0:=by omega
  rcases kinds x with k | k | k | k | k | k | k | k | k
  ·have f1000:¬ ((65:Int)≤x):=by omega
   have f1001:(x≤90):=by omega
   have f1002:¬ ((97:Int)≤x):=by omega
   have f1003:(x≤122):=by omega
   have f1004:¬ ((48:Int)≤x):=by omega
   have f1005:(x≤57):=by omega
   have f1006:¬ (x=95):=by omega
   have hb:nameB i x=false:=by simp [nameB,hi0]; omega
   simp only [hb,if_true,Bool.false_eq_true,if_false]
   simp only [go_sem,seval,c72_0,hit,hd1,hd2,f1000,f1001,f1002,f1003,f1004,f1005,f1006,hz]
  ·have f1000:¬ ((65:Int)≤x):=by omega
   have f1001:(x≤90):=by omega
   have f1002:¬ ((97:Int)≤x):=by omega
   have f1003:(x≤122):=by omega
   have f1004:((48:Int)≤x):=by omega
   have f1005:(x≤57):=by omega
   have f1006:¬ (x=95):=by omega
   have hb:nameB i x=true:=by simp [nameB,hi0]; omega
   simp only [hb,if_true,Bool.false_eq_true,if_false]
   simp only [go_sem,seval,c72_0,hit,hd1,hd2,f1000,f1001,f1002,f1003,f1004,f1005,f1006,hz]
  ·have f1000:¬ ((65:Int)≤x):=by omega
   have f1001:(x≤90):=by omega
   have f1002:¬ ((97:Int)≤x):=by omega
   have f1003:(x≤122):=by omega
   have f1004:((48:Int)≤x):=by omega
   have f1005:¬ (x≤57):=by omega
   have f1006:¬ (x=95):=by omega
   have hb:nameB i x=false:=by simp [nameB,hi0]; omega
   simp only [hb,if_true,Bool.false_eq_true,if_false]
   simp only [go_sem,seval,c72_0,hit,hd1,hd2,f1000,f1001,f1002,f1003,f1004,f1005,f1006,hz]
  ·have f1000:((65:Int)≤x):=by omega
   have f1001:(x≤90):=by omega
   have f1002:¬ ((97:Int)≤x):=by omega
   have f1003:(x≤122):=by omega
   have f1004:((48:Int)≤x):=by omega
   have f1005:¬ (x≤57):=by omega
   have f1006:¬ (x=95):=by omega
   have hb:nameB i x=true:=by simp [nameB,hi0]; omega
   simp only [hb,if_true,Bool.false_eq_true,if_false]
   simp only [go_sem,seval,c72_0,hit,hd1,hd2,f1000,f1001,f1002,f1003,f1004,f1005,f1006,hz]
  ·have f1000:((65:Int)≤x):=by omega
   have f1001:¬ (x≤90):=by omega
   have f1002:¬ ((97:Int)≤x):=by omega
   have f1003:(x≤122):=by omega
   have f1004:((48:Int)≤x):=by omega
   have f1005:¬ (x≤57):=by omega
   have f1006:¬ (x=95):=by omega
   have hb:nameB i x=false:=by simp [nameB,hi0]; omega
   simp only [hb,if_true,Bool.false_eq_true,if_false]
   simp only [go_sem,seval,c72_0,hit,hd1,hd2,f1000,f1001,f1002,f1003,f1004,f1005,f1006,hz]
  ·have f1000:((65:Int)≤x):=by omega
   have f1001:¬ (x≤90):=by omega
   have f1002:¬ ((97:Int)≤x):=by omega
   have f1003:(x≤122):=by omega
   have f1004:((48:Int)≤x):=by omega
   have f1005:¬ (x≤57):=by omega
   have f1006:(x=95)=True:=by simp [k]
   have hb:nameB i x=true:=by simp [nameB,hi0]; omega
   simp only [hb,if_true,Bool.false_eq_true,if_false]
   simp only [go_sem,seval,c72_0,hit,hd1,hd2,f1000,f1001,f1002,f1003,f1004,f1005,f1006,hz]
  ·have f1000:((65:Int)≤x):=by omega
   have f1001:¬ (x≤90):=by omega
   have f1002:¬ ((97:Int)≤x):=by omega
   have f1003:(x≤122):=by omega
   have f1004:((48:Int)≤x):=by omega
   have f1005:¬ (x≤57):=by omega
   have f1006:¬ (x=95):=by omega
   have hb:nameB i x=false:=by simp [nameB,hi0]; omega
   simp only [hb,if_true,Bool.false_eq_true,if_false]
   simp only [go_sem,seval,c72_0,hit,hd1,hd2,f1000,f1001,f1002,f1003,f1004,f1005,f1006,hz]
  ·have f1000:((65:Int)≤x):=by omega
   have f1001:¬ (x≤90):=by omega
   have f1002:((97:Int)≤x):=by omega
   have f1003:(x≤122):=by omega
   have f1004:((48:Int)≤x):=by omega
   have f1005:¬ (x≤57):=by omega
   have f1006:¬ (x=95):=by omega
   have hb:nameB i x=true:=by simp [nameB,hi0]; omega
   simp only [hb,if_true,Bool.false_eq_true,if_false]
   simp only [go_sem,seval,c72_0,hit,hd1,hd2,f1000,f1001,f1002,f1003,f1004,f1005,f1006,hz]
  ·have f1000:((65:Int)≤x):=by omega
   have f1001:¬ (x≤90):=by omega
   have f1002:((97:Int)≤x):=by omega
   have f1003:¬ (x≤122):=by omega
   have f1004:((48:Int)≤x):=by omega
   have f1005:¬ (x≤57):=by omega
   have f1006:¬ (x=95):=by omega
   have hb:nameB i x=false:=by simp [nameB,hi0]; omega
   simp only [hb,if_true,Bool.false_eq_true,if_false]
   simp only [go_sem,seval,c72_0,hit,hd1,hd2,f1000,f1001,f1002,f1003,f1004,f1005,f1006,hz]
def nameAll (i:Nat):List UInt8→Bool
 | []=>true
 | c::s=>nameB i c.toNat && nameAll (i + 1) s
def isName (s:List UInt8):Bool:=decide (s ≠ []) && decide (s.length≤24) && nameAll 0 s
def ex134:Nat→Env
 | 0=>[]
 | _ + 1=>[(46,.bool false,false)]
theorem l72 (s:List UInt8) (hn:s.length≤9223372036854775807):
  ∃ hh,X pr (.loop c72_0) ⟨[(0,.str s,false),(8,.ptr 0 0,false)],[.iter s 0]⟩ =
   some (if nameAll 0 s=true then (.exit 0,⟨[(0,.str s,false),(8,.ptr 0 0,false),(9,.tup [.bool false],false),(10,.bool false,false)],[.iter s s.length]⟩) else (.ret,⟨[(2,.bool false,false)],hh⟩)):=by
 obtain ⟨hh,this⟩:∃ hh:Nat→Heap,X pr (.loop c72_0) ((fun i (_:Unit)=>(⟨(0,.str s,false)::(8,.ptr 0 0,false)::ex134 i,[.iter s i]⟩:ASt)) 0 ())=some (outL (fun _=>(.exit 0,⟨[(0,.str s,false),(8,.ptr 0 0,false),(9,.tup [.bool false],false),(10,.bool false,false)],[.iter s s.length]⟩)) (fun (i:Nat)=>(.ret,⟨[(2,.bool false,false)],hh i⟩))
   (runL (fun i _ (c:UInt8)=>if nameB i c.toNat=true then .inl () else .inr i) 0 () s)):=by
  refine ⟨fun i=>[.iter s (i + (decodeA s i).2)],?_⟩
  refine X_loop_list (p:=pr) (c:=c72_0) s (fun i (_:Unit)=>⟨(0,.str s,false)::(8,.ptr 0 0,false)::ex134 i,[.iter s i]⟩) (fun i _ (c:UInt8)=>if nameB i c.toNat=true then .inl () else .inr i)
   (fun _=>(.exit 0,⟨[(0,.str s,false),(8,.ptr 0 0,false),(9,.tup [.bool false],false),(10,.bool false,false)],[.iter s s.length]⟩)) (fun (i:Nat)=>(.ret,⟨[(2,.bool false,false)],[.iter s (i + (decodeA s i).2)]⟩)) (fun _ _=>True) () ?_ ?_ ?_ ?_ trivial
  ·intro _ h; cases h
  ·intro _ h; cases h
  ·intro _ _
   have hit:=fun h b=>iterR_out (h:=h) (b:=b) (pos:=s.length) (s:=s) (by omega)
   simp only [go_sem,seval,c72_0,hit]
  ·intro i _ c hc hi _
   unfold stepL
   by_cases hl:c.toNat < 128
   ·have hd:=decode_lt hc hl
    have hb:=b72 s (ex134 i) i c.toNat 1 (by rw [hd]; simp) (by omega) hi
    by_cases hxy:nameB i c.toNat=true
    ·simp only [if_pos hxy] at hb ⊢
     exact ⟨trivial,_,hb,gc_same (Nat.le_refl _)⟩
    ·simp only [if_neg hxy] at hb ⊢
     rw [hd]; exact hb
   ·have hd:=decode_ge hc hl
    have hb:=b72 s (ex134 i) i ((decodeA s i).1:Nat) (decodeA s i).2 (by simp) (by omega) hi
    have h1:¬ nameB i c.toNat=true:=by simp [nameB]; omega
    have h2:¬ nameB i ((decodeA s i).1:Nat)=true:=by simp [nameB]; omega
    simp only [if_neg h1]
    simp only [if_neg h2] at hb
    exact hb
 have hr:∀ (s:List UInt8) (i:Nat),nameAll i s=true→runL (γ:=Unit) (δ:=Nat) (fun i _ (c:UInt8)=>if nameB i c.toNat=true then .inl () else .inr i) i () s=.inl ():=by
  intro s
  induction s with
  | nil=>intro i _; rfl
  | cons c s ih=>
   intro i hb
   simp only [nameAll,Bool.and_eq_true] at hb
   simp only [runL,hb.1,if_true]
   exact ih (i + 1) hb.2
 have hr':∀ (s:List UInt8) (i:Nat),¬ nameAll i s=true→∃ j,runL (γ:=Unit) (δ:=Nat) (fun i _ (c:UInt8)=>if nameB i c.toNat=true then .inl () else .inr i) i () s=.inr j:=by
  intro s
  induction s with
  | nil=>intro i h; exact absurd rfl h
  | cons c s ih=>
   intro i hb
   by_cases hc:nameB i c.toNat=true
   ·simp only [runL,hc,if_true]
    exact ih (i + 1) (fun hh=>hb (by simp only [nameAll,hc,hh,Bool.and_self]))
   ·exact ⟨i,by simp only [runL,if_neg hc]⟩
 by_cases h3:nameAll 0 s=true
 ·rw [hr s 0 h3] at this
  exact ⟨[],by rw [if_pos h3]; exact this⟩
 ·obtain ⟨j,hj⟩:=hr' s 0 h3
  rw [hj] at this
  exact ⟨hh j,by rw [if_neg h3]; exact this⟩
theorem I72 (s:List UInt8) (hn:s.length≤9223372036854775807):callIso pr (X pr) 72 [.str s]=some (.bool (isName s),false):=by
 have:∃ hh,callFn pr (X pr) 72 [.str s] []=some (.bool (isName s),false,hh):=by
  rw [callFn_at (show pr.fns 72=some c72 from rfl) (by simp)]
  obtain ⟨hh,hl⟩:=l72 s hn
  by_cases h3:nameAll 0 s=true
  ·simp only [if_pos h3] at hl
   by_cases h1:s=[]
   ·have hb:isName s=false:=by simp [isName,h1]
    have h1t:(s=[])=True:=by simp [h1]
    rw [hb]
    simp only [go_sem,seval,c72,hl,h1t]
    exact ⟨_,rfl⟩
   ·by_cases h2:s.length≤24
    ·have h2':(s.length:Int)≤24:=by omega
     have hb:isName s=true:=by simp [isName,h1,h2,h3]
     rw [hb]
     simp only [go_sem,seval,c72,hl,h1,h2']
     exact ⟨_,rfl⟩
    ·have h2':¬ (s.length:Int)≤24:=by omega
     have hb:isName s=false:=by simp [isName,h2]
     rw [hb]
     simp only [go_sem,seval,c72,hl,h1,h2']
     exact ⟨_,rfl⟩
  ·simp only [if_neg h3] at hl
   have hb:isName s=false:=by simp [isName,h3]
   rw [hb]
   simp only [go_sem,seval,c72,hl]
   exact ⟨_,rfl⟩
 obtain ⟨hh,this⟩:=this
 exact callIso_of rfl this rfl rfl
end Go.Z
