/- Lemmas. -/
import Derived.Test.YtkijckccfookeaaGreatDoorV08
set_option linter.unusedVariables false
set_option linter.unusedSimpArgs false
namespace Go.Proofs.YtkijckccfookeaaGreatDoor
open Go.RowKit
def xB (b:B):B:=b.flatMap fun c=>[120,c]
def yZ:B:=[110,111,116,104,105,110,103]
theorem LJ (l:B):∀(σ :B×List B) (a:B) (r:List B),σ.2=a::r->∃r',o8 (l.foldl kP σ)=a::r':=by
 induction l with
 |nil=>intro σ a r h;rw[aq8,o8,h];exact⟨_,rfl⟩
 |cons c l ih=>
  intro σ a r h;rw[aqN];refine ih _ a ?_ ?_
  ·exact if blank c then r++(if σ.1=[] then [] else [σ.1]) else r
  unfold kP;split
  ·simp[o8,h]
  exact h
theorem abv (l:B):∀(σ :B×List B) (c:UInt8) (u:B),σ.2=[]-> σ.1=c::u->∃u' r',o8 (l.foldl kP σ)=(c::u')::r':=by
 induction l with
 |nil=>intro σ c u h k;rw[aq8,o8,h,k];exact⟨u,[],by simp⟩
 |cons d l ih=>
  intro σ c u h k;rw[aqN];by_cases hb:blank d=true
  ·obtain⟨r',hr⟩:=LJ l (kP σ d) (c::u) [] (by rw[kP,if_pos hb];simp[o8,h,k]);exact⟨u,r',hr⟩
  refine ih _ c (u++[d]) ?_ ?_
  ·rw[kP,if_neg hb];exact h
  rw[kP,if_neg hb,k];rfl
theorem aej (p:B):∃u r,texts (120::p)=(120::u)::r:=by
 have e:code (120::p)=120::code p:=by unfold code;rw[List.takeWhile_cons_of_pos (by decide)]
 unfold texts IA;rw[e,aqN];exact abv _ _ 120 [] rfl rfl
theorem aaB (p:B):∃r,texts (yZ++32::p)=yZ::r:=by
 have e:code (yZ++32::p)=[110,111,116,104,105,110,103,32]++code p:=by
  unfold code yZ;simp only[aqC,aqX]
  repeat rw[List.takeWhile_cons_of_pos (by decide)]
 unfold texts IA;rw[e,aq7];exact LJ _ _ yZ [] rfl
theorem ahf (b:B):∃p ps,dh (xB b)=p::ps/\∀q∈p::ps,q=[]\/∃r,q=120::r:=by
 induction b with
 |nil=>exact⟨[],[],rfl,fun q hq=>by simp at hq;exact .inl hq⟩
 |cons c b ih=>
  obtain⟨p,ps,h1,h2⟩:=ih;have e:xB (c::b)=120::c::xB b:=rfl;by_cases hc:c=10
  ·subst hc;refine⟨[120],p::ps,?_,fun q hq=> ?_⟩
   ·rw[e,dh,if_neg (by decide),dh,if_pos rfl,h1]
   rw[aqx] at hq;rcases hq with rfl|hq
   ·exact .inr ⟨[],rfl⟩
   exact h2 q hq
  refine⟨120::c::p,ps,?_,fun q hq=> ?_⟩
  ·rw[e,dh,if_neg (by decide),dh,if_neg hc,h1]
  rw[aqx] at hq;rcases hq with rfl|hq
  ·exact .inr ⟨_,rfl⟩
  exact h2 q (by simp[hq])
theorem ae7 (ps:List B):∀(n:Nat),∀x∈tl n ps,∃p∈ps,x.2=texts p:=by
 induction ps with
 |nil=>intro n x hx;simp[tl] at hx
 |cons p ps ih=>
  intro n x hx;rw[tl,aqp] at hx;rcases hx with hx|hx
  ·split at hx
   ·simp at hx
   simp only[aql] at hx;subst hx;exact⟨p,by simp,rfl⟩
  obtain⟨q,hq,e⟩:=ih _ x hx;exact⟨q,by simp[hq],e⟩
theorem Zv (a b p:B)(ps:List B)(ha:∀c∈a,c≠10)(h:dh b=p::ps):dh (a++b)=(a++p)::ps:=by
 induction a with
 |nil=>simpa using h
 |cons c a ih=>rw[aqC,dh,if_neg (ha c (by simp)),ih (fun d hd=>ha d (by simp[hd]))];rfl
theorem RX (s b:B):dw (s++10::(yZ++32::xB b))=(match dw s with| .ok _=> .error (((s.count 10+2:Nat):Int),22)| .error x=> .error x):=by
 obtain⟨p,ps,h1,h2⟩:=ahf b;obtain⟨r,hr⟩:=aaB p;have hp:dh (yZ++32::xB b)=(yZ++32::p)::ps:=by have:=Zv (yZ++[32]) (xB b) p ps (by decide) h1;simpa using this
 refine QX s (yZ++32::xB b) (yZ::r) (fun n=>⟨tl (n+1) ps,?_,fun x hx w v hw=> ?_⟩) (fun w v hw=> ?_) (fun gl st=>rfl)
 ·rw[hp,tl,hr,if_neg (by simp)];rfl
 ·obtain⟨q,hq,e⟩:=ae7 ps _ x hx;rcases h2 q (by simp[hq]) with rfl|⟨t,rfl⟩
  ·rw[e] at hw;simp[texts,IA,code,o8] at hw
  obtain⟨u,y,hu⟩:=aej t;rw[e,hu] at hw;simp only[arc] at hw;obtain⟨rfl,-⟩:=hw;exact fun h=>by simp[eQ] at h
 simp only[arc] at hw;obtain⟨rfl,-⟩:=hw;decide
end Go.Proofs.YtkijckccfookeaaGreatDoor
