/- Maps from texts to values of any kind. -/
import Derived.Test.YtimdocpnkimlfaaGreatDoorCA
set_option linter.unusedVariables false
set_option linter.unusedSimpArgs false
set_option maxRecDepth 100000
open List renaming find?→I,map_cons→Ey,length_cons→Gn
open Option renaming some→En,none→Gp
namespace Go.Z
open Go Go.Abs
variable {α:Type}
def jo (f:α→AVal)(l:List (List UInt8×α)):List (AVal×AVal):=l.map fun p=>(.str p.1,f p.2)
def jn (z:α)(l:List (List UInt8×α))(k:List UInt8):α:=match l.find? fun p=>decide (k=p.1)with
 |some p=>p.2
 |none=>z
def yg:List (List UInt8×α)→List UInt8→α→List (List UInt8×α)
 | [],k,v=>[(k,v)]
 |p::l,k,v=>if k=p.1 then(p.1,v)::l else p::yg l k v
def mV (l:List (List UInt8×α))(k:List UInt8)(v:α):Option (List (List UInt8×α)):=if l.length≤1073741824 then En (yg l k v)else Gp
theorem Xz (f:α→AVal)(k:List UInt8):∀(l:List (List UInt8×α)) (n:Nat),(jq .str (.str k) (jo f l) n=En Gp∧l.find? (fun p=>decide (k=p.1))=Gp∧∀v,jo f (yg l k v)=jo f l++[(.str k,f v)])∨∃i p,jq .str (.str k) (jo f l) n=En (En (n+i,f p.2))∧l.find? (fun p=>decide (k=p.1))=En p∧∀v,jo f (yg l k v)=pH (jo f l) i (f v)
 | [],n=>.inl ⟨rfl,rfl,fun _=>rfl⟩
 |p::l,n=>by
  by_cases hx:k=p.1
  ·refine .inr ⟨0,p,?_,?_,fun v=>?_⟩
   ·simp only[jo,Ey,jq,E8,decide_eq_true hx];rfl
   ·simp[I,hx]
   ·simp only[yg,if_pos hx];rfl
  ·rcases Xz f k l (n+1)with⟨h1,h2,h3⟩|⟨i,q,h1,h2,h3⟩
   ·refine .inl ⟨?_,?_,fun v=>?_⟩
    ·simp only[jo,Ey,jq,E8,decide_eq_false hx];exact h1
    ·simp only[I,decide_eq_false hx];exact h2
    ·simp only[yg,if_neg hx]
     show _::jo f (yg l k v)=_
     rw[h3];rfl
   ·refine .inr ⟨i+1,q,?_,?_,fun v=>?_⟩
    ·simp only[jo,Ey,jq,E8,decide_eq_false hx]
     rw[show n+(i+1)=n+1+i by omega];exact h1
    ·simp only[I,decide_eq_false hx];exact h2
    ·simp only[yg,if_neg hx]
     show _::jo f (yg l k v)=_
     rw[h3];rfl
theorem jow {f:α→AVal}{z:α}{h:qh}{l:List (List UInt8×α)}{k:List UInt8}:pU h (f z) (jq .str (.str k) (jo f l) 0)=En ⟨f (jn z l k),false,Gp,h⟩:=by
 unfold jn
 rcases Xz f k l 0 with⟨h1,h2,_⟩|⟨i,p,h1,h2,_⟩<;>rw[h1,h2]<;>rfl
theorem jgw {f:α→AVal}{h:qh}{b:Nat}{l v:List (List UInt8×α)}{k:List UInt8}{x:α}(hv:mV l k x=En v):pV h b (jo f l) (.str k) (f x) (jq .str (.str k) (jo f l) 0)=fO (jt h b (.map (jo f v))) .undef:=by
 unfold mV at hv
 split at hv
 ·rename_i hl
  cases hv
  rcases Xz f k l 0 with⟨h1,h2,h3⟩|⟨i,p,h1,h2,h3⟩
  ·rw[h1,h3]
   have:Nat.ble (jo f l).length 1073741824=true:=Nat.ble_eq_true_of_le (by rw[jo,List.length_map];exact hl)
   simp only[pV,this,cr,cond_true]
  ·rw[h1,h3,Nat.zero_add];rfl
 ·cases hv
theorem B5 {z:α}{l:List (List UInt8×α)}{k k':List UInt8}{v:α}:jn z (yg l k v) k'=if k'=k then v else jn z l k':=by
 induction l with
 |nil=>by_cases h:k'=k<;>simp[yg,jn,I,h]
 |cons p l ih=>
  unfold jn at ih ⊢
  by_cases hk:k=p.1
  ·by_cases h:k'=k
   ·subst h;simp[yg,I,←hk]
   ·have h2:¬k'=p.1:=by rw[←hk];exact h
    simp[yg,I,hk,h2]
  ·by_cases h2:k'=p.1
   ·have h3:¬k'=k:=by rw[h2];exact fun h=>hk h.symm
    have h4:¬p.1=k:=fun h=>hk h.symm
    simp[yg,I,hk,h2,h4]
   ·simp only[yg,if_neg hk,I,decide_eq_false h2]
    exact ih
theorem Ij {k:List UInt8}{v:α}:∀ {l:List (List UInt8×α)},(yg l k v).length≤l.length+1
 | []=>Nat.le_refl _
 |p::l=>by
  by_cases h:k=p.1
  ·simp only[yg,if_pos h,Gn];omega
  ·simp only[yg,if_neg h,Gn]
   have:=Ij (k:=k) (v:=v) (l:=l);omega
abbrev dl:ay:=⟨[],[],0,Gp,Gp,[],false,0⟩
theorem Nd {h:qh}{l:List (List UInt8×Int)}{k:List UInt8}:pU h (.int .i64 0) (jq .str (.str k) (jo jm l) 0)=En ⟨.int .i64 (jn (0:Int) l k),false,Gp,h⟩:=jow (f:=jm) (z:=0)
theorem jnf {h:qh}{b:Nat}{l v:List (List UInt8×Int)}{k:List UInt8}{x:Int}(hv:mV l k x=En v):pV h b (jo jm l) (.str k) (.int .i64 x) (jq .str (.str k) (jo jm l) 0)=fO (jt h b (.map (jo jm v))) .undef:=jgw (f:=jm) hv
theorem qv6 {p xc h0 al e h r}:qf p xc h0 al e h (.dW r)=fO (aJ h0 h r (.map (jo jm []))) (.map (h0+r)):=q9h
theorem XA {l v:List (List UInt8×Int)}{k:List UInt8}{x:Int}(hv:mV l k x=En v):∀(h:qh) (b:Nat),pV h b (jo jm l) (.str k) (.int .i64 x) (jq .str (.str k) (jo jm l) 0)=fO (jt h b (.map (jo jm v))) .undef:=fun _ _=>jnf hv
theorem XB {h:qh}{l:List (List UInt8×ay)}{k:List UInt8}:pU h (.agg [.str [],.str [],.int .i64 0,.list true 0 [],.list true 0 [],.str [],.bool false,.int .i64 0]) (jq .str (.str k) (jo aY l) 0)=En ⟨.agg [.str (jn dl l k).name,.str (jn dl l k).product,.int .i64 (jn dl l k).version,sl 2 bn (jn dl l k).uses,sl 3 ja (jn dl l k).results,.str (jn dl l k).partner,.bool (jn dl l k).shipped,.int .i64 (jn dl l k).ai],false,Gp,h⟩:=jow (f:=aY) (z:=dl)
theorem jqa {h:qh}{b:Nat}{l v:List (List UInt8×ay)}{k:List UInt8}{x:ay}(hv:mV l k x=En v):pV h b (jo aY l) (.str k) (.agg [.str x.name,.str x.product,.int .i64 x.version,sl 2 bn x.uses,sl 3 ja x.results,.str x.partner,.bool x.shipped,.int .i64 x.ai]) (jq .str (.str k) (jo aY l) 0)=fO (jt h b (.map (jo aY v))) .undef:=jgw (f:=aY) hv
theorem q0v {p xc h0 al e h r}:qf p xc h0 al e h (.dW r)=fO (aJ h0 h r (.map (jo aY []))) (.map (h0+r)):=q9h
theorem XD {l v:List (List UInt8×ay)}{k:List UInt8}{x:ay}(hv:mV l k x=En v):∀(h:qh) (b:Nat),pV h b (jo aY l) (.str k) (.agg [.str x.name,.str x.product,.int .i64 x.version,sl 2 bn x.uses,sl 3 ja x.results,.str x.partner,.bool x.shipped,.int .i64 x.ai]) (jq .str (.str k) (jo aY l) 0)=fO (jt h b (.map (jo aY v))) .undef:=fun _ _=>jqa hv
end Go.Z
