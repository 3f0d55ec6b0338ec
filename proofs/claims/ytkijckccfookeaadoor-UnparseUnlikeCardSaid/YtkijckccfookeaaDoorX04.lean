/- Lemmas. -/
import Derived.Test.YtkijckccfookeaaDoorX03
import Derived.Lib.SmallJoins
import Derived.Test.YtkijckccfookeaaDoorRows
import Derived.Lib.Builder
import Derived.Lib.UnsafeStr
import Derived.Lib.MakeNoZero
set_option linter.unusedVariables false
set_option linter.unusedSimpArgs false
set_option maxRecDepth 100000
set_option maxHeartbeats 32000000
namespace Go.Proofs.YtkijckccfookeaaDoor
section
open Go.RowKit
def uQ (c:UInt8):Bool:=c !=32 && c !=9 && c !=10 && c !=35
def bI (w:B):Bool:= !w.isEmpty && w.all uQ
theorem uu {c:UInt8}(h:uQ c=true):blank c=false/\c≠35/\c≠10:=by simp only[uQ,ag1,bne_iff_ne,ne_eq] at h;exact⟨by simp[blank,h.1.1.1,h.1.1.2],h.2,h.1.2⟩
theorem JP {w:B}(h:bI w=true):w≠[]:=by intro e;subst e;simp[bI] at h
theorem tX {w:B}(h:bI w=true):∀c∈w,uQ c=true:=by simp only[bI,ag1,ahc] at h;exact h.2
def pM (ws:List B):B:=match ws with|[]=>[10]|w::r=>ax w r
def rM:Nat->List B->List (Nat×B)
 |_,[]=>[]
 |k,w::r=>(k,w)::rM (k+w.length+1) r
theorem QC (k:Nat)(ws:List B):(rM k ws).map (·.2)=ws:=by
 induction ws generalizing k with
 |nil=>rfl
 |cons w r ih=>simp[rM,ih]
theorem DV (σ :St)(w:B)(hw:bI w=true)(hc: σ.cur=[]):w.foldl step σ =⟨σ.at'+w.length,σ.at',w,σ.told⟩:=by
 cases w with
 |nil=>simp[bI] at hw
 |cons c r=>have h1:=uu (tX hw c (by simp));rw[ag4,Pm _ r (by unfold step;simp[h1.1]) (fun d hd=>(uu (tX hw d (by simp[hd]))).1)];unfold step;simp[h1.1,hc];omega
theorem NL (ws:List B)(σ :St)(hc: σ.cur≠[])(h:∀w∈ws,bI w=true):((dN ws).foldl step σ).all= σ.told++[(σ.fr,σ.cur)]++rM (σ.at'+1) ws:=by
 induction ws generalizing σ with
 |nil=>simp[dN,rM,St.all,St.pend,hc]
 |cons w r ih=>
  have e:dN (w::r)=32::(w++dN r):=by simp[dN]
  have hs:step σ 32=⟨σ.at'+1,0,[],σ.all⟩:=by unfold step;rw[if_pos (by decide)]
  rw[e,ag4,List.foldl_append,hs,DV _ w (h w (by simp)) rfl,ih _ (JP (h w (by simp))) (fun x hx=>h x (by simp[hx]))];simp[St.all,St.pend,hc,rM]
  all_goals omega
theorem RN (l:B)(h:∀c∈l,c≠35):code l=l:=by
 unfold code;induction l with
 |nil=>rfl
 |cons d r ih=>rw[List.takeWhile_cons_of_pos (by simpa using h d (by simp)),ih (fun c hc=>h c (by simp[hc]))]
theorem KH (ws:List B)(h:∀w∈ws,bI w=true):∀c∈dN ws,c≠35/\c≠10:=by
 intro c hc;simp only[dN,ahe,agQ] at hc;obtain⟨w,hw,hc|hc⟩:=hc
 ·subst hc;decide
 exact(uu (tX (h w hw) c hc)).2
theorem RJ (w:B)(ws:List B)(h:∀x∈w::ws,bI x=true):one (w++dN ws)=rM 0 (w::ws):=by
 have hn:∀c∈w++dN ws,c≠35:=by
  intro c hc;rw[agJ] at hc;rcases hc with hc|hc
  ·exact(uu (tX (h w (by simp)) c hc)).2.1
  exact(KH ws (fun x hx=>h x (by simp[hx])) c hc).1
 rw[one,RN _ hn,run,List.foldl_append,DV st0 w (h w (by simp)) rfl,NL ws _ (JP (h w (by simp))) (fun x hx=>h x (by simp[hx]))];simp[rM,st0]
def vw:Nat->List (List B)->List (List Wd)
 |_,[]=>[]
 |n,l::ls=>num n (rM 0 l)::vw (n+1) ls
def lT:Nat->List (List B)->List (Int×List B)
 |_,[]=>[]
 |n,l::ls=>((n:Int),l)::lT (n+1) ls
def Qa (L:List (List B)):Prop:=∀l∈L,l≠[]/\∀w∈l,bI w=true
theorem KW (L:List (List B))(n:Nat)(h:Qa L):pY n (Bl (L.flatMap pM))=vw n L:=by
 induction L generalizing n with
 |nil=>simp[Bl,pY,vw,one,code,run,st0,St.all,St.pend]
 |cons l ls ih=>
  obtain⟨h1,h2⟩:=h l (by simp);cases l with
  |nil=>exact absurd rfl h1
  |cons w r=>
   have hno:∀c∈w++dN r,c≠10:=by
    intro c hc;rw[agJ] at hc;rcases hc with hc|hc
    ·exact(uu (tX (h2 w (by simp)) c hc)).2.2
    exact(KH r (fun x hx=>h2 x (by simp[hx])) c hc).2
   have e:((w::r)::ls).flatMap pM=(w++dN r)++10::ls.flatMap pM:=by simp[pM,ax]
   rw[e,UD _ _ hno,pY,RJ w r h2,ih (n+1) (fun x hx=>h x (by simp[hx]))];simp[rM,vw]
theorem OL (L:List (List B))(h:Qa L):Qd (L.flatMap pM)=vw 1 L:=KW L 1 h
theorem UR (L:List (List B))(n:Nat)(h:Qa L):(vw n L).map (fun l=>((l.head?.map (·.1)).getD 0,l.map (·.2.2)))=lT n L:=by
 induction L generalizing n with
 |nil=>rfl
 |cons l ls ih=>
  obtain⟨h1,h2⟩:=h l (by simp);cases l with
  |nil=>exact absurd rfl h1
  |cons w r=>
   simp only[vw,agO,lT,ih (n+1) (fun x hx=>h x (by simp[hx]))];congr 1
   simp only[num,rM,agO,List.head?_cons,Option.map_some,Option.getD_some,List.map_map,ahl,true_and];congr 1
   have:=QC (0+w.length+1) r;simpa [Function.comp_def] using this
theorem Ls (L:List (List B))(h:Qa L):linesT (L.flatMap pM)=lT 1 L:=by rw[linesT,OL L h,UR L 1 h]
theorem Pz (n:Nat)(L:List (List B)):(lT n L).map (·.2)=L:=by
 induction L generalizing n with
 |nil=>rfl
 |cons l ls ih=>simp[lT,ih]
theorem NQ (n:Nat)(a b:List (List B)):lT n (a++b)=lT n a++lT (n+a.length) b:=by
 induction a generalizing n with
 |nil=>simp[lT]
 |cons l ls ih=>simp only[agU,lT,ih,aV];rw[show n+1+ls.length=n+(ls.length+1) by omega]
theorem NR (gl:Gl)(s:PS)(a b:List (Int×List B)):stmts gl s (a++b)=(match stmts gl s a with| .ok s'=>stmts gl s' b| .error e=> .error e):=by
 induction a generalizing s with
 |nil=>rfl
 |cons x a ih=>
  obtain⟨n,l⟩:=x;simp only[agU,stmts];cases stmt gl s l with
  |error e=>rfl
  |ok s'=>exact ih s'
end
section
open Go.ChangeShapes Go.WideShapes Go.Deep Go.Joins Go.RowKit
theorem Xa:Tryd.prog.cellsOf 3=1:=by kernel_rfl
section
variable {H:Type} {enc:TypeId×Value->H} {w:World} {base:Nat} {held:Bool}
theorem KQ {fuel:Nat}{c0:Value}{x:DataW H×List MemPlace}(h:DataW.trod enc Tryd.prog w base (fun _=>true) held fuel 22 [c0]=some x):
  ∃(A:Option Addr) (n c:Nat) (zs:List Int),c0= .slice A n c/\n<=c/\c<=maxLen/\Rd w w.heap.size A n 1 (aN zs)/\∀z∈zs,I64 z:=by
 rcases open_ints Tryd.underlying22 Tryd.underlying3 Xa h with⟨hcs,_⟩|⟨a,len,cap,zs,hcs,_,hl,hm,hz,_,hcell,hwz⟩
 ·simp only[ahp,and_true] at hcs;exact⟨none,0,0,[],hcs,by omega,by simp,Rd.nil _ _ _ _,by simp⟩
 simp only[ahp,and_true] at hcs;have hz':zs.length=cap:=by simpa using hz
 have hlen:(aN (zs.take len)).length=len*1:=by rw[aN,agL,agY,hz'];have:=Nat.min_eq_left hl;omega
 have h64:∀z∈zs.take len,I64 z:=fun z hz=>bounds_i64 (hwz z (List.mem_of_mem_take hz))
 refine⟨some a,len,cap,zs.take len,hcs,hl,hm,⟨hlen,fun hn=> ?_⟩,h64⟩;obtain⟨b,o,s⟩:=a;have h0:=hcell 0 (by omega);have hs:s=none:=by simpa [Addr.add] using World.cell?_spot h0
 subst hs;have hlt:b<w.heap.size:=by rw[addr_add] at h0;exact World.block_lt_of_cell? w _ h0
 refine⟨b,o,rfl,hlt,fun j u hu=> ?_⟩;simp only[aN,cI,ag5,Option.map_eq_some_iff] at hu;obtain⟨q,hq,rfl⟩:=hu;rw[ag6] at hq;split at hq
 ·have h1:=hcell j (agG.1 hq).1;rw[addr_add,List.getD_eq_getElem?_getD,hq] at h1;exact h1
 cases hq
theorem Eg {W:World}{r:Reach}{v:Value}{d:DataW H}{p:List MemPlace}(hok:Value.okWide Tryd.prog W r base 22 v)(h:DataW.Trod enc Tryd.prog W 0 (fun _=>true) true 22 v d p):
  ∃(A:Option Addr) (n c:Nat) (zs:List Int),v= .slice A n c/\n<=c/\c<=maxLen/\(Rd W W.heap.size A n 1 (aN zs)/\∀z∈zs,I64 z):=by
 obtain⟨a,len,cap,rfl⟩:=okWide_slice Tryd.underlying22 hok;obtain⟨fuel,hf⟩:=h;exact KQ hf
end
end
section
open Go.RowKit
def DF {H:Type}(ss:List B):DataW H:= .agg (ss.map fun s=> .lit (.string s))
theorem EW {H:Type}{enc:TypeId×Value->H}{P:Program}{w:World}{base:Nat}{sp:Nat->Bool}{held:Bool}{fuel:Nat}{t e:TypeId}{n:Nat}{cs:List Value}{ss:List B}{p:List MemPlace}
  (ht:P.underlying t=some (.array n e)) (he:P.underlying e=some .string) (hce:P.cellsOf e=1) (hct:P.cellsOf t=n)
  (h:DataW.trod enc P w base sp held fuel t cs=some (DF ss,p)):cs=strs ss:=by
 cases fuel with
 |zero=>simp[DataW.trod] at h
 |succ fuel=>
  simp only[DataW.trod,ht,hce,hct,Nat.mul_one] at h;split at h
  ·rename_i hl;obtain⟨xs,hm,hx⟩:=Option.map_eq_some_iff.1 h;have hxs:xs.map (·.1)=ss.map fun s=>(DataW.lit (.string s):DataW H):=by have:=congrArg Prod.fst hx;simpa [DF] using this
   have hxl:xs.length=n:=by simpa using Lib.mapM_length hm
   have hzl:ss.length=n:=by have:=congrArg List.length hxs;simp at this;omega
   apply List.ext_getElem?;intro i;by_cases hi:i<n
   ·obtain⟨b,hb,hf⟩:=Lib.mapM_at hm i i (by simp[hi]);obtain⟨s,hc,rfl,_⟩:=DataW.trod_string he hf;have h1:cs[i]? =some (.string s):=by have:=congrArg (·[0]?) hc;simpa [ag6,List.getElem?_drop] using this
    have h2:(xs.map (·.1))[i]? =some (DataW.lit (.string s.data.toList):DataW H):=by simp[hb]
    rw[hxs] at h2;simp only[ag5,Option.map_eq_some_iff,DataW.lit.injEq,Lit.string.injEq] at h2;obtain⟨z',hz',hz2⟩:=h2;rw[h1];simp only[strs,ag5,hz',Option.map_some,ag3,Value.string.injEq];subst hz2;rfl
   rw[ag2 (by omega),ag2 (by simp[strs];omega)]
  cases h
def VarReads (P:Program)(w:World)(n:String)(d:DataW Unit):Prop:=∃g t cs fuel p,P.globalNamed n=some g/\(P.globals[g]?).map (·.type)=some t/\w.var? P n=some cs/\DataW.trod (fun _=>()) P w 0 (fun _=>true) false fuel t cs.toList=some (d,p)
theorem tY {P:Program}{w:World}:∀ {l:List (String×DataW Unit)} {ps:List MemPlace},DataW.LaidVars P w l ps->∀n d,(n,d)∈l->VarReads P w n d
 |[],_,_,_,_,hm=>by cases hm
 |(n',d')::r,ps,h,n,d,hm=>by
  obtain⟨g,t,cs,fuel,p,q,h1,h2,h3,h4,h5,_⟩:=h;rcases agQ.1 hm with e|e
  ·cases e;exact⟨g,t,cs,fuel,p,h1,h2,h3,h4⟩
  exact tY h5 n d e
theorem nS {P:Program}{w:World}{l:List (String×DataW Unit)}(h:laidMet P l w){n:String}{d:DataW Unit}(hm:(n,d)∈l):VarReads P w n d:=
 let ⟨_,hv,_⟩:=h
 tY hv n d hm
theorem zX {P:Program}{w:World}{n:String}{g:Nat}{cs:Array Value}(hg:P.globalNamed n=some g)(h:w.var? P n=some cs):∃t fz,w.heap[g]? =some (.cells cs t fz):=by
 unfold World.var? at h;rw[hg] at h;simp only[Option.bind_some] at h;split at h
 ·rename_i cs' t fz heq;cases h;exact⟨t,fz,heq⟩
 cases h
theorem xH {P:Program}{w:World}{n:String}{ss:List B}{g:Nat}{t e:TypeId}{m:Nat}(h:VarReads P w n (DF ss))(hg:P.globalNamed n=some g)(hty:(P.globals[g]?).map (·.type)=some t)
  (ht:P.underlying t=some (.array m e)) (he:P.underlying e=some .string) (hce:P.cellsOf e=1) (hct:P.cellsOf t=m):afA w g (strs ss):=by
 obtain⟨g',t',cs,fuel,p,hg',ht',hv,hd⟩:=h;obtain rfl:=Option.some.inj (hg.symm.trans hg');obtain rfl:=Option.some.inj (hty.symm.trans ht');have:=EW ht he hce hct hd;obtain⟨t2,fz,hh⟩:=zX hg hv;exact⟨t2,fz,by rw[hh,<-this]⟩
theorem PE {P:Program}{w:World}{n:String}{k:IntKind}{zs:List Int}{g:Nat}{t e:TypeId}{m:Nat}(h:VarReads P w n (.agg (zs.map fun z=> .lit (.int k z))))(hg:P.globalNamed n=some g)(hty:(P.globals[g]?).map (·.type)=some t)
  (ht:P.underlying t=some (.array m e)) (he:P.underlying e=some (.int k)) (hce:P.cellsOf e=1) (hct:P.cellsOf t=m):afA w g (zs.map fun z=>Value.int k z):=by
 obtain⟨g',t',cs,fuel,p,hg',ht',hv,hd⟩:=h;obtain rfl:=Option.some.inj (hg.symm.trans hg');obtain rfl:=Option.some.inj (hty.symm.trans ht');have:=Lib.cells_of_tab ht he hce hct hd;obtain⟨t2,fz,hh⟩:=zX hg hv;exact⟨t2,fz,by rw[hh,<-this]⟩
theorem Zc {P:Program}{w:World}{n:String}{d:DataW Unit}{g:Nat}(h:VarReads P w n d)(hg:P.globalNamed n=some g):g<w.heap.size:=by obtain⟨g',t',cs,fuel,p,hg',ht',hv,hd⟩:=h;obtain⟨t2,fz,hh⟩:=zX hg hv;exact(agI.1 hh).1
def PrC (w:World)(g:Nat)(fc:Nat->Value)(ad v:Value):Prop:=Bk w g 96 #[fc 0,fc 1,fc 2,fc 3,fc 4,fc 5,fc 6,fc 7,fc 8,ad,v]
def Pr (w:World)(Bd g:Nat)(fc:Nat->Value)(txt:B):Prop:=∃ad v,Bd<=g/\PrC w g fc ad v/\(ad= .pointer none\/ad= .pointer (some ⟨g,9,none⟩))/\w.ownsRow Bd 5 1 v txt.length (Lib.byteCells txt)
def PrU (w:World)(Bd g:Nat)(fc:Nat->Value)(txt:B):Prop:=∃v,Bd<=g/\PrC w g fc (.pointer (some ⟨g,9,none⟩)) v/\w.ownsRow Bd 5 1 v txt.length (Lib.byteCells txt)
theorem Pr.lt {w:World}{Bd g:Nat}{fc:Nat->Value}{txt:B}(h:Pr w Bd g fc txt):Bd<=g/\g<w.heap.size:=by obtain⟨ad,v,h1,h2,-⟩:=h;exact⟨h1,Bk.lt h2⟩
theorem Z9 {w:World}{g g':Nat}{t t':TypeId}{cs cs':Array Value}(h:Bk w g t cs)(h':Bk w g' t' cs')(hne:t≠t'):g≠g':=by
 rintro rfl;have a1:w.heap[g]? =_:=h;have a2:w.heap[g]? =_:=h';rw[a1] at a2;injection a2 with a3
 injection a3 with _ a4
 exact hne a4
theorem Dt {w:World}{base:Nat}{e t:TypeId}{s:Nat}{v:Value}{n:Nat}{xs:List Value}(h:w.ownsRow base e s v n xs){g:Nat}{cs:Array Value}(hb:Bk w g t cs)(hne:e≠t):v.ownBlock≠some g:=by intro e';obtain⟨cur,hk⟩:=gW h g e';exact Z9 hk hb hne rfl
theorem uJ {w:World}{base:Nat}{e t:TypeId}{s:Nat}{v:Value}{n:Nat}{xs:List Value}(h:w.ownsRow base e s v n xs){g:Nat}{cs:Array Value}(hb:Bk w g t cs)(hne:e≠t)(i:Nat)(u:Value):(w.setCell ⟨g,i,none⟩ u).ownsRow base e s v n xs:=h.kept (row:=some g) (bU (p:=⟨g,i,none⟩) (World.grownBy.refl _ _) (.inl rfl) _) (.inr (Dt h hb hne))
theorem KP.store {w:World}{g:Nat}{cs:Array Value}(h:Bk w g 96 cs)(i:Nat)(u:Value):KP w (w.setCell ⟨g,i,none⟩ u):=
 ⟨fun b o hb hn=>by
  refine(Below.heap_setCell w ⟨g,i,none⟩ u b ?_).trans hb;rintro rfl;have h1:w.heap[b]? =_:=h;rw[h1] at hb;injection hb with hb
  subst hb;exact hn.2 rfl,by simp⟩
theorem KP.grown {w w':World}{base n:Nat}{v:Value}{xs:List Value}(ho:w.ownsRow base 5 1 v n xs)(hg:w.grownBy w' v.ownBlock):KP w w':=
 ⟨fun b o hb hn=>by
  refine(hg.block b (agI.1 hb).1 ?_).trans hb;intro e;obtain⟨cur,hk⟩:=gW ho b e.symm;have h1:w.heap[b]? =_:=hk;rw[h1] at hb;injection hb with hb
  subst hb;exact hn.1 rfl,hg.size⟩
theorem infoByte:(Tryd.prog.info? 5).map (fun i=>(i.zero,i.size,i.bytes))=some (some (.int .u8 0),1,1):=by kernel_rfl
theorem sizeBuilder:(Tryd.prog.info? 94).map (fun i=>i.size)=some 2:=by kernel_rfl
theorem liesBuilder:liesAt Tryd.prog Tryd.prog.depth 96 (11 / Tryd.prog.cellsOf 96) 9 94 1=true:=by kernel_rfl
theorem PrC.shape {w:World}{g:Nat}{fc:Nat->Value}{ad v:Value}(h:PrC w g fc ad v):w.shape? g=some (96,11):=by unfold PrC Bk at h;simp[World.shape?,h]
theorem Nj (g:Nat)(w:World)(h0:w.cell? ⟨g,9,none⟩=some (.pointer (some ⟨g,9,none⟩))):
  Calls Tryd.prog 65 #[.pointer (some ⟨g,9,none⟩)] w fun e w'=>e= .returned (.tuple #[])/\w=w':=by
 obtain⟨j,hj,_⟩:=Option.map_eq_some_iff.1 sizeBuilder;go_enter Tryd.func65,Tryd.ntmps65
 go_wp2;rw[Lib.run_neq_ptr_same w _ Tryd.underlying91 hj];go_wp2
 go_end0
 exact⟨rfl,rfl⟩
theorem Je (g:Nat)(w:World)(fc:Nat->Value)(v:Value)(h:PrC w g fc (.pointer none) v):
  Calls Tryd.prog 65 #[.pointer (some ⟨g,9,none⟩)] w fun e w'=>e= .returned (.tuple #[])/\w'=w.setCell ⟨g,9,none⟩ (.pointer (some ⟨g,9,none⟩)):=by
 obtain⟨j,hj,hjs⟩:=Option.map_eq_some_iff.1 sizeBuilder;have h0:w.cell? ⟨g,9,none⟩=some (.pointer none):=h.cell 9;have hfz:w.frozen? ⟨g,9,none⟩=false:=h.frozen 9;have hsh:=h.shape;go_enter Tryd.func65,Tryd.ntmps65
 go_wp2;rw[Lib.run_to_unsafe w ⟨g,9,none⟩ Tryd.underlying91 Tryd.underlying167 hj (by rw[hjs];decide) hsh (show 9<11 by decide)];simp only[Result.andThen];rw[Oper.upon_value];go_wp2;rw[run_callFunc_extern Tryd.func90 (by kernel_rfl) (by kernel_rfl) (by kernel_rfl) (e:=Extern.AbiNoEscape.same) (by kernel_rfl)];rw[Lib.run_noEscape];simp only[Result.andThen];rw[Oper.upon_value];go_wp2;rw[Lib.run_from_unsafe w ⟨g,9,none⟩ Tryd.underlying167 Tryd.underlying91 hj hsh liesBuilder];simp only[Result.andThen];rw[Oper.upon_value];go_wp2
 go_end0
 exact⟨rfl,rfl⟩
theorem Ho (w:World)(Bd g:Nat)(fc:Nat->Value)(txt:B)(h:Pr w Bd g fc txt):
  Calls Tryd.prog 65 #[.pointer (some ⟨g,9,none⟩)] w fun e w'=>e= .returned (.tuple #[])/\PrU w' Bd g fc txt/\KP w w'/\Below Bd w w':=by
 obtain⟨ad,v,h1,h2,h3|h3,h4⟩:=h
 ·subst h3;refine(Je g w fc v h2).mono ?_;rintro e w' ⟨rfl,rfl⟩;refine⟨rfl,⟨v,h1,?_,uJ h4 h2 (by decide) _ _⟩,KP.store h2 _ _,(agE _ _).setCell (p:=⟨g,9,none⟩) h1 _⟩;have:=Bk.set h2 9 (.pointer (some ⟨g,9,none⟩));exact this
 subst h3;refine(Nj g w (Bk.cell h2 9)).mono ?_;rintro e w' ⟨rfl,rfl⟩;exact⟨rfl,⟨v,h1,h2,h4⟩,KP.refl _,agE _ _⟩
theorem vP (a b:B):Lib.byteCells (a++b)=Lib.byteCells a++Lib.byteCells b:=by simp[Lib.byteCells]
theorem wV (w:World)(Bd g:Nat)(fc:Nat->Value)(txt:B)(c:UInt8)(h:Pr w Bd g fc txt)(hlen:txt.length<=1000000000000):
  Calls Tryd.prog 43 #[.pointer (some ⟨g,9,none⟩),.int .u8 c.toNat] w fun e w'=>e= .returned .nilIface/\Pr w' Bd g fc (txt++[c])/\KP w w'/\Below Bd w w':=by
 obtain⟨i0,hi,hz0,hz1,hz2⟩:=info_parts infoByte;have hlt:=h.lt;go_enter Tryd.func43,Tryd.ntmps43
 go_wp2_with (go_at_call 65;refine(Ho _ Bd g fc txt h).mono ?_)
 rintro e w1 ⟨rfl,⟨v,hB,hbk,hown⟩,hk1,hb1⟩;have hs1:=hb1.size;have c1:w1.cell? ⟨g,10,none⟩=some v:=Bk.cell hbk 10;go_wp2_with (at_builtin;refine wpList_append_own _ rfl _ _ 92 rfl Bd 5 i0 (.int .u8 0) 1 1 Tryd.underlying92 hi hz0 hz1 hz2 rfl (by decide) _ _ _ rfl (hown.alloc _) ⟨w1.heap.size,0,none⟩ 1 1 [.int .u8 c.toNat] rfl rfl ?c1 ?c2 ?c3 ?c4 ?c5 ?_)
 case c1=>
  intro j u hj
  match j,hj with
  |0,hj=>simp at hj;subst hj;simp[Addr.add]
 case c2=>intro u hu;simp at hu;subst hu;rfl
 case c3=>unfold maxLen;omega
 case c4=>omega
 case c5=>simp;omega
 intro v' w2 hown' hgrow _;have hlt1:=Bk.lt hbk;have ack:=Bk.alloc hbk (.cells #[.int .u8 c.toNat] 5);have hbk2:PrC w2 g fc (.pointer (some ⟨g,9,none⟩)) v:=(hgrow.block g (by simp;omega) (fun e=>Dt hown hbk (by decide) e.symm)).trans ack;have d1:w2.cell? ⟨g,10,none⟩=some v:=Bk.cell hbk2 10;have f1:w2.frozen? ⟨g,10,none⟩=false:=Bk.frozen hbk2 10;have HB:=hd0 hbk2;obtain⟨g',cap,rfl⟩:∃g' cap,v'= .slice (some ⟨g',0,none⟩) (txt.length+1) cap:=by
  rcases hown'.2 with⟨_,h0⟩|⟨g',cap,cur,hv,_⟩
  ·omega
  exact⟨g',cap,hv⟩
 go_wp2;go_ret
 refine⟨rfl,⟨_,_,hB,Bk.set HB.out 10 _,.inr rfl,?_⟩,?_,?_⟩
 ·refine uJ ?_ HB.out (by decide) _ _;rw[vP,la];simpa [Lib.byteCells] using hown'
 ·exact((hk1.trans (KP.alloc _ _)).trans (KP.grown (hown.alloc _) hgrow)).trans (KP.store HB.out _ _)
 exact((hb1.alloc (by omega) _).grown hgrow (by simp;omega) (fun k hk=>(hown.lt k hk).1)).setCell (p:=⟨g,10,none⟩) hB _
theorem uA (w:World)(Bd g:Nat)(fc:Nat->Value)(txt s:B)(h:Pr w Bd g fc txt)(hlen:txt.length+s.length<=1000000000000):
  Calls Tryd.prog 42 #[.pointer (some ⟨g,9,none⟩),.string ⟨s.toArray⟩] w fun e w'=>e= .returned (.tuple #[.int .i64 s.length,.nilIface])/\Pr w' Bd g fc (txt++s)/\KP w w'/\Below Bd w w':=by
 obtain⟨i0,hi,hz0,hz1,hz2⟩:=info_parts infoByte;have hlt:=h.lt;go_enter Tryd.func42,Tryd.ntmps42
 go_wp2_with (go_at_call 65;refine(Ho _ Bd g fc txt h).mono ?_)
 rintro e w1 ⟨rfl,⟨v,hB,hbk,hown⟩,hk1,hb1⟩;have hs1:=hb1.size;have c1:w1.cell? ⟨g,10,none⟩=some v:=Bk.cell hbk 10;go_wp2_with (at_builtin;refine Lib.wpList_append_own_string _ rfl _ _ 92 9 rfl Bd 5 i0 Tryd.underlying92 Tryd.underlying9 hi hz0 hz1 hz2 _ _ _ rfl hown ⟨s.toArray⟩ rfl ?c3 ?c4 ?c5 ?_)
 case c3=>
  have e:(⟨s.toArray⟩:ByteArray).size=s.length:=by rfl
  rw[e];unfold maxLen;omega
 case c4=>
  have e:(⟨s.toArray⟩:ByteArray).size=s.length:=by rfl
  rw[e];omega
 case c5=>omega
 intro v' w2 hown' hgrow _;have hlt1:=Bk.lt hbk;have hbk2:PrC w2 g fc (.pointer (some ⟨g,9,none⟩)) v:=(hgrow.block g hlt1 (fun e=>Dt hown hbk (by decide) e.symm)).trans hbk;have d1:w2.cell? ⟨g,10,none⟩=some v:=Bk.cell hbk2 10;have f1:w2.frozen? ⟨g,10,none⟩=false:=Bk.frozen hbk2 10;have HB:=hd0 hbk2;obtain⟨ao,n',cap,rfl⟩:∃ao n' cap,v'= .slice ao n' cap:=by
  rcases hown'.2 with⟨hv,_⟩|⟨g',cap,cur,hv,_⟩
  ·exact⟨_,_,_,hv⟩
  exact⟨_,_,_,hv⟩
 go_wp2
 go_ret2
 refine⟨rfl,⟨_,_,hB,Bk.set HB.out 10 _,.inr rfl,?_⟩,?_,?_⟩
 ·refine uJ ?_ HB.out (by decide) _ _;rw[vP,la];have e:Lib.strCells ⟨s.toArray⟩=Lib.byteCells s:=by simp[Lib.strCells,Lib.byteCells]
  rw[e] at hown';simpa using hown'
 ·exact(hk1.trans (KP.grown hown hgrow)).trans (KP.store HB.out _ _)
 exact(hb1.grown hgrow (by omega) (fun k hk=>(hown.lt k hk).1)).setCell (p:=⟨g,10,none⟩) hB _
theorem LK (w:World)(Bd g:Nat)(fc:Nat->Value)(l:B)(h:Pr w Bd g fc l)(h0:l≠[]):
  Calls Tryd.prog 28 #[.pointer (some ⟨g,9,none⟩)] w fun e w'=>e= .returned (.string ⟨l.toArray⟩)/\Below Bd w w':=by
 obtain⟨ad,v,hB,hbk,-,hown⟩:=h;have hl0:l.length≠0:=by simpa using h0
 obtain⟨q,cap,cur,rfl,hbg,hg,hnc,hcm,hcs,htake⟩:∃q cap cur,v= .slice (some ⟨q,0,none⟩) l.length cap/\Bd<=q/\w.heap[q]? =some (.cells cur 5 (0,0))/\l.length<=cap/\cap<=maxLen/\cur.size=cap*1/\cur.toList.take (l.length*1)=Lib.byteCells l:=by
  rcases hown.2 with⟨_,hz⟩|⟨q,cap,cur,hv,r⟩
  ·exact absurd hz hl0
  exact⟨q,cap,cur,hv,r⟩
 have c1:w.drew.cell? ⟨g,10,none⟩=some (.slice (some ⟨q,0,none⟩) l.length cap):=Bk.cell hbk 10;have hSD:(Builtin.unsafeSliceData_ #[92] 132 #[.slice (some ⟨q,0,none⟩) l.length cap]).run Tryd.prog w.drew= .ok (.pointer (some ⟨q,0,none⟩)) w.drew:=Lib.run_unsafeSliceData_row _ _ _ _ _ _ (by omega);have hUS:(Builtin.unsafeString_ #[132,3] 9 #[.pointer (some ⟨q,0,none⟩),.int .i64 l.length]).run Tryd.prog w.drew= .ok (.string ⟨l.toArray⟩) (w.drew.freeze ⟨q,0,none⟩ l.length):=by refine Lib.run_unsafeString_row w.drew 132 3 9 5 Tryd.underlying132 (by kernel_rfl) q cur.size (by have hg':w.drew.heap[q]? =some (.cells cur 5 (0,0)):=hg;simp[World.shape?,hg']) l h0 (by omega) (by unfold maxLen at hcm;omega) ?_;intro j x hx;have:=hown.cells (g:=q) rfl j (.int .u8 x.toNat) (by simp[Lib.byteCells,hx]);exact this
 go_enter Tryd.func28,Tryd.ntmps28
 go_wp2;go_region
 all_goals (go_wp2;go_ret;exact⟨rfl,Lib.below_freeze (Below.drew (agE Bd w)) (p:=⟨q,0,none⟩) hbg _⟩)
def ElT (e t:TypeId)(size:Nat):Prop:=∃i z,Tryd.prog.underlying t=some (.slice e)/\Tryd.prog.info? e=some i/\i.zero=some z/\i.size=size/\z.cells.size=size/\i.bytes<=1000/\0<size
theorem ElT.mk {e t:TypeId}{size:Nat}(ht:Tryd.prog.underlying t=some (.slice e))(h:(Tryd.prog.info? e).map (fun i=>(i.zero.map (fun z=>z.cells.size),i.size,decide (i.bytes<=1000)))=some (some size,size,true))(hs:0<size):ElT e t size:=by obtain⟨i,hi,he⟩:=Option.map_eq_some_iff.1 h;simp only[ahl,ahs] at he;obtain⟨z,hz,hc⟩:=Option.map_eq_some_iff.1 he.1;exact⟨i,z,ht,hi,hz,he.2.1,hc,he.2.2,hs⟩
theorem ku:ElT 3 22 1:= .mk Tryd.underlying22 (by kernel_rfl) (by decide)
theorem MR:ElT 22 75 1:= .mk Tryd.underlying75 (by kernel_rfl) (by decide)
theorem LG:ElT 72 55 2:= .mk Tryd.underlying55 (by kernel_rfl) (by decide)
theorem Jb:ElT 55 30 1:= .mk Tryd.underlying30 (by kernel_rfl) (by decide)
theorem aaM:ElT 146 49 3:= .mk Tryd.underlying49 (by kernel_rfl) (by decide)
theorem Gh:ElT 66 52 3:= .mk Tryd.underlying52 (by kernel_rfl) (by decide)
theorem Hm:ElT 68 53 4:= .mk Tryd.underlying53 (by kernel_rfl) (by decide)
theorem CG:ElT 70 54 4:= .mk Tryd.underlying54 (by kernel_rfl) (by decide)
theorem J5:ElT 57 24 9:= .mk Tryd.underlying24 (by kernel_rfl) (by decide)
theorem Ha:ElT 74 25 2:= .mk Tryd.underlying25 (by kernel_rfl) (by decide)
theorem OT:ElT 80 76 2:= .mk Tryd.underlying76 (by kernel_rfl) (by decide)
theorem wU:ElT 78 58 6:= .mk Tryd.underlying58 (by kernel_rfl) (by decide)
theorem Qj:ElT 60 26 3:= .mk Tryd.underlying26 (by kernel_rfl) (by decide)
theorem I8:ElT 82 27 2:= .mk Tryd.underlying27 (by kernel_rfl) (by decide)
theorem Hf:ElT 84 28 4:= .mk Tryd.underlying28 (by kernel_rfl) (by decide)
theorem Au:ElT 89 29 1:= .mk Tryd.underlying29 (by kernel_rfl) (by decide)
theorem X5:ElT 86 87 3:= .mk Tryd.underlying87 (by kernel_rfl) (by decide)
abbrev Loc (w:World)(v v':Value):Prop:=v'.ownBlock=v.ownBlock\/∀g,v'.ownBlock=some g->w.heap.size<=g
theorem yg {e t size:Nat}(E:ElT e t size)(ty:TypeId)(w1:World)(base n c:Nat)(A:Option Addr)(xs:List Value)(hown:w1.ownsRow base e size (.slice A n c) n xs)
  (Bd:Nat) (A2:Option Addr) (m c2:Nat) (news:List Value) (hr:Rd w1 Bd A2 m size news) (h1:∀u∈news,u.oneCell'=true) (hn:n+m<=100000000000) (hb:base<=w1.heap.size):
  ∃A' c' w',(Builtin.append_ #[t,t] ty #[.slice A n c,.slice A2 m c2]).run Tryd.prog w1= .ok (.slice A' (n+m) c') w'/\w'.ownsRow base e size (.slice A' (n+m) c') (n+m) (xs++news)/\w1.grownBy w' (Value.slice A n c).ownBlock/\Loc w1 (.slice A n c) (.slice A' (n+m) c'):=by
 obtain⟨i,z,ht,hi,hz,hs,hzs,hby,hsz⟩:=E;have hbytes:(n+m)*i.bytes<=140737488355328:=nt (Nat.mul_le_mul hn hby) (by decide);obtain⟨v',w',hrun,ho,hg,hl⟩:=uo (P:=Tryd.prog) w1 base t ty e i z size i.bytes ht hi hz hs rfl hzs hsz (.slice A n c) n xs hown Bd A2 m c2 news hr h1 (by simp only[maxLen];omega) hbytes hb;obtain⟨A',c',rfl⟩:=EK ho;refine⟨A',c',w',hrun,ho,hg,?_⟩;rcases hl with hl|hl
 ·exact .inl hl
 exact .inr (fun g e=>by rw[hl] at e;injection e with e;omega)
section
variable {e t size:Nat} {ops:Array Oper} {rest:List Oper} {o:Oper} {a:Act} {Q:Exit->Act->World->Prop}
theorem Fh (E:ElT e t size)(hgd:o.guard=none)(s x:Operand)(ho:o.op= .call {callee:= .builtin .append,args:= #[s,x],argTypes:= #[t,t]})
  (w1:World) (base n c:Nat) (A:Option Addr) (xs:List Value) (Bd:Nat) (A2:Option Addr) (m c2:Nat) (news:List Value) (hs:a.eval s= .slice A n c) (hx:a.eval x= .slice A2 m c2)
  (hown:w1.ownsRow base e size (.slice A n c) n xs) (hr:Rd w1 Bd A2 m size news) (h1:∀u∈news,u.oneCell'=true) (hn:n+m<=100000000000) (hb:base<=w1.heap.size)
  (h:∀A' c' w',w'.ownsRow base e size (.slice A' (n+m) c') (n+m) (xs++news)->w1.grownBy w' (Value.slice A n c).ownBlock->Loc w1 (.slice A n c) (.slice A' (n+m) c')->wpList Tryd.prog ops Q rest (a.put o.dst (.slice A' (n+m) c')) w'):
  wpList Tryd.prog ops Q (o::rest) a w1:=by
 obtain⟨A',c',w',hrun,h2,h3,h4⟩:=yg E o.type w1 base n c A xs hown Bd A2 m c2 news hr h1 hn hb;refine wpList_plain hgd fun K hK=> ?_
 unfold Oper.wp execOp;simp only[ho,resolve,invoke,builtin,Sem.run_bind,Sem.run_pure,Result.andThen_ok,List.map_toArray,agO,ahk,hs,hx,hrun];exact hK _ _ (h A' c' w' h2 h3 h4)
theorem wR (E:ElT e t size)(hgd:o.guard=none)(s x:Operand)(ho:o.op= .call {callee:= .builtin .append,args:= #[s,x],argTypes:= #[t,t]})
  (w1:World) (hsz:Nat) (hh:w1.heap.size=hsz) (base n c:Nat) (A:Option Addr) (xs:List Value) (news:Array Value) (hnl:news.size=size) (hs:a.eval s= .slice A n c) (hx:a.eval x= .slice (some ⟨hsz,0,none⟩) 1 1)
  (hown:w1.ownsRow base e size (.slice A n c) n xs) (h1:∀u∈news.toList,u.oneCell'=true) (hn:n<=10000000000) (hb:base<=w1.heap.size)
  (h:∀A' c' w',w'.ownsRow base e size (.slice A' (n+1) c') (n+1) (xs++news.toList)->w1.grownBy w' (Value.slice A n c).ownBlock->Loc w1 (.slice A n c) (.slice A' (n+1) c')->wpList Tryd.prog ops Q rest (a.put o.dst (.slice A' (n+1) c')) w'):
  wpList Tryd.prog ops Q (o::rest) a (w1.alloc (.cells news e)):=by
 subst hh;refine Fh E hgd s x ho _ base n c A xs (w1.heap.size+1) (some ⟨w1.heap.size,0,none⟩) 1 1 news.toList hs hx (hown.alloc _) (Rd.newAt _ _ rfl news e 1 size (by omega)) h1 (by omega) (by simp;omega) ?_;intro A' c' w' h2 h3 h4;refine h A' c' w' h2 ⟨h3.os,h3.tape,h3.output,nt (by simp) h3.size,fun i hi hne=> ?_⟩ (h4.imp id fun h5 g hg=>by have:=h5 g hg;simp at this;omega);exact(h3.block i (by simp;omega) hne).trans (Below.heap_alloc _ _ _ hi)
end
end
section
open Go.RowKit
def N9 (n:Int):Prop:= -999999999<=n/\n<=999999999
def jr (p:List Ins):Prop:=∀i∈p,1<=i.op/\i.op<=39/\N9 i.a
def In (n:Nat)(x:Int):Prop:=0<=x/\x<n
def gU:Nat->List Int->Nat->Prop
 |fr,[],len=>fr=len
 |fr,e::es,len=>(fr:Int)<=e/\e<len/\gU (e.toNat+1) es len
structure OkG (n:Nat)(g:aeS):Prop where
 name:nameB g.name=true
 adv:N9 g.advance
 pts:∀p∈g.points,N9 p.x/\N9 p.y
 ends:gU 0 g.ends g.points.length
 parts:∀p∈g.parts,In n p.aeT/\N9 p.x/\N9 p.y
 anch:∀a∈g.anchors,1<=a.kind/\a.kind<=4/\N9 a.cls/\N9 a.x/\N9 a.y
 ae3:∀d∈g.deltas,N9 d.region/\N9 d.point/\N9 d.x/\N9 d.y
 hint:jr g.hint
def OkS (n:Nat)(s:List Int):Prop:=s.Pairwise (· < ·)/\∀x∈s,In n x
structure OkR (n:Nat)(kind:Int)(r:ae4):Prop where
 back:∀s∈r.back,OkS n s
 in':∀s∈r.in',OkS n s
 ahead:∀s∈r.ahead,OkS n s
 out:∀x∈r.out,In n x
 calls:∀c∈r.calls,N9 c.at'/\N9 c.lookup
 x:N9 r.x
 one:kind=1\/kind=5->∃s,r.in'=[s]/\r.out.length=s.length
 outs:kind=4\/6<=kind->r.out=[]
 noC:kind≠4->r.calls=[]
 noX:kind≠6->r.x=0
structure afs (f:Fnt):Prop where
 unit:N9 f.unit
 aeP:∀a∈f.aeP,nameB a.name=true/\N9 a.min'/\N9 a.afk/\N9 a.max'
 regs:∀r∈f.regions,∀t∈r.ae0,N9 t.start/\N9 t.peak/\N9 t.stop
 cvt:∀n∈f.cvt,N9 n
 funcs:∀p∈f.funcs,jr p
 apart:(f.aeN.map (·.name)).Nodup
 aeN:∀g∈f.aeN,OkG f.aeN.length g
 chars:∀c∈f.chars,N9 c.rune/\In f.aeN.length c.aeT
 aeO:∀l∈f.aeO,1<=l.kind/\l.kind<=8/\∀r∈l.rules,OkR f.aeN.length l.kind r
 aeX:∀x∈f.features,nameB x.name=true/\∀n∈x.aeO,N9 n
 few:f.aeN.length<=1000
def Gz (c:UInt8):Bool:=qf c||c==45
theorem qL (u:Nat):∀c∈Lib.decDigits u,qf c=true:=by
 induction u using Nat.strongRecOn with
 |_ u ih=>
  rw[Lib.decDigits];split
  ·intro c hc;simp only[agF] at hc;subst hc;rw[uI,UInt8.toNat_ofNat'];omega
  intro c hc;rw[agJ,agF] at hc;rcases hc with hc|rfl
  ·exact ih (u / 10) (by omega) c hc
  rw[uI,UInt8.toNat_ofNat'];omega
theorem yh (u:Nat):AA (Lib.decDigits u)=u:=by
 induction u using Nat.strongRecOn with
 |_ u ih=>
  rw[Lib.decDigits];split
  ·have e:[UInt8.ofNat (48+u)]=[]++[UInt8.ofNat (48+u)]:=rfl;rw[e,EG,UInt8.toNat_ofNat'];have:AA []=0:=rfl;omega
  rw[EG,ih (u / 10) (by omega),UInt8.toNat_ofNat'];omega
theorem KG (k:Nat):∀u,u<10 ^ (k+1)->Lib.nDigits u<=k+1:=by
 induction k with
 |zero=>intro u hu;rw[Lib.nDigits_small (by simpa using hu)];exact ai _
 |succ k ih=>
  intro u hu;by_cases h:u<10
  ·rw[Lib.nDigits_small h];omega
  rw[Lib.nDigits_big h];have:=ih (u / 10) (by rw[Nat.pow_succ] at hu;omega);omega
theorem yB (u:Nat)(h:u<=999999999):1<=(Lib.decDigits u).length/\(Lib.decDigits u).length<=9:=by rw[Lib.decDigits_length];exact⟨Lib.nDigits_pos u,KG 8 u (by show u<1000000000;omega)⟩
theorem JE (u:Nat)(h:u<=999999999):FQ (Lib.decDigits u)=true:=Q7 _ (qL u) (yB u h).1 (yB u h).2
theorem vH (u:Nat):∃c r,Lib.decDigits u=c::r/\c≠45:=by
 cases h:Lib.decDigits u with
 |nil=>have:=Lib.decDigits_length u;have:=Lib.nDigits_pos u;rw[h] at*;simp at*;omega
 |cons c r=>
  refine⟨c,r,rfl,fun e=> ?_⟩;have:=qL u c (by rw[h];simp);rw[e] at this
  revert this
  decide
theorem dI (n:Int)(h:N9 n):FK (af n)=true/\fO (af n)=n:=by
 unfold N9 at h;unfold af Lib.itoa;split
 ·have e:oz (45::Lib.decDigits n.natAbs)=Lib.decDigits n.natAbs:=rfl;have e2:signed (45::Lib.decDigits n.natAbs)=true:=rfl;have e3:=JE n.natAbs (by omega);refine⟨by rw[FK,e,e3],?_⟩;rw[fO,e,e2,if_pos e3,if_pos rfl,yh];omega
 obtain⟨c,r,h1,h2⟩:=vH n.toNat;have e:oz (Lib.decDigits n.toNat)=Lib.decDigits n.toNat/\signed (Lib.decDigits n.toNat)=false:=by
  rcases FN (Lib.decDigits n.toNat) with⟨r',h,_⟩|⟨h3,h4,_⟩
  ·rw[h1] at h;injection h with h _
   exact absurd h h2
  exact⟨h3,h4⟩
 have e3:=JE n.toNat (by omega);refine⟨by rw[FK,e.1,e3],?_⟩;rw[fO,e.1,e.2,if_pos e3,yh];simp;omega
theorem lZ (n:Int):∀c∈af n,Gz c=true:=by
 intro c hc;unfold af Lib.itoa at hc;split at hc
 ·rw[agQ] at hc;rcases hc with rfl|hc
  ·decide
  simp[Gz,qL _ c hc]
 simp[Gz,qL _ c hc]
theorem ZM (n:Int):af n≠[]:=by
 unfold af Lib.itoa;split
 ·simp
 obtain⟨c,r,h1,h2⟩:=vH n.toNat;rw[h1];simp
theorem gI {c:UInt8}(h:Gz c=true):uQ c=true/\c≠58/\c≠44/\c≠42/\c≠64/\c≠47/\c≠62/\c≠91/\c≠93:=by
 simp only[Gz,Bool.or_eq_true,uI,beq_iff_eq] at h;refine⟨?_,?_,?_,?_,?_,?_,?_,?_,?_⟩
 ·simp only[uQ,ag1,bne_iff_ne,ne_eq];refine⟨⟨⟨?_,?_⟩,?_⟩,?_⟩<;>(rintro rfl;revert h;decide)
 all_goals (rintro rfl;revert h;decide)
theorem oh (n:Int):bI (af n)=true:=by simp only[bI,ag1,Bool.not_eq_true',List.isEmpty_eq_false_iff,ahc];exact⟨ZM n,fun c hc=>(gI (lZ n c hc)).1⟩
theorem fA (n:Int)(h:N9 n)(e:Int):jY e (af n)=e:=by rw[jY,if_neg (by rw[(dI n h).1];simp)]
theorem rU (l:List Int)(h:∀n∈l,N9 n)(e:Int):pz e (l.map af)=e:=by
 induction l generalizing e with
 |nil=>rfl
 |cons n r ih=>have:pz e ((n::r).map af)=pz (jY e (af n)) (r.map af):=rfl;rw[this,fA n (h n (by simp)),ih (fun m hm=>h m (by simp[hm]))]
theorem Ai (l:List Int)(h:∀n∈l,N9 n):(l.map af).map fO=l:=by
 rw[List.map_map]
 conv=>rhs;rw[<-List.map_id l]
 exact List.map_congr_left (fun n hn=>(dI n (h n hn)).2)
theorem PL {s:B}(h:nameB s=true):∀c∈s,uQ c=true/\c≠58/\c≠44/\c≠42/\c≠64/\c≠47/\c≠62/\c≠91/\c≠93:=by
 intro c hc;obtain⟨k,hk⟩:=agX.1 hc;have ha:nameAt k c=true:=by rw[<-Bool.not_eq_false];intro hf;rw[Tc s k c hk hf] at h;cases h
 rw[qJ] at ha;refine⟨?_,?_,?_,?_,?_,?_,?_,?_,?_⟩
 ·simp only[uQ,ag1,bne_iff_ne,ne_eq];refine⟨⟨⟨?_,?_⟩,?_⟩,?_⟩<;>(rintro rfl;simp at ha)
 all_goals (rintro rfl;simp at ha)
theorem Vj {s:B}(h:nameB s=true):s≠[]:=by
 rintro rfl
 revert h
 decide
theorem mQ {s:B}(h:nameB s=true):bI s=true:=by simp only[bI,ag1,Bool.not_eq_true',List.isEmpty_eq_false_iff,ahc];exact⟨Vj h,fun c hc=>(PL h c hc).1⟩
theorem AB {s:B}(h:nameB s=true)(e:Int):sK e s=e:=by rw[sK,if_neg (by rw[h];simp)]
theorem IX {c:UInt8}{a b:B}(h:∀d∈a,d≠c):qW c (a++c::b)=a/\tK c (a++c::b)=b:=by
 induction a with
 |nil=>simp[qW,tK]
 |cons d r ih=>
  obtain⟨i1,i2⟩:=ih (fun x hx=>h x (by simp[hx]));have hd:(d !=c)=true:=by simpa using h d (by simp)
  constructor
  ·show List.takeWhile (· !=c) (d::(r++c::b))=_;rw[List.takeWhile_cons_of_pos (p:=fun x=>x !=c) hd];exact congrArg _ i1
  show(List.dropWhile (· !=c) (d::(r++c::b))).drop 1=_;rw[List.dropWhile_cons_of_pos (p:=fun x=>x !=c) hd];exact i2
theorem WJ {c:UInt8}{a:B}(h:∀d∈a,d≠c):qW c a=a/\tK c a=[]:=by
 induction a with
 |nil=>simp[qW,tK]
 |cons d r ih=>
  obtain⟨i1,i2⟩:=ih (fun x hx=>h x (by simp[hx]));have hd:(d !=c)=true:=by simpa using h d (by simp)
  constructor
  ·show List.takeWhile (· !=c) (d::r)=_;rw[List.takeWhile_cons_of_pos (p:=fun x=>x !=c) hd];exact congrArg _ i1
  show(List.dropWhile (· !=c) (d::r)).drop 1=_;rw[List.dropWhile_cons_of_pos (p:=fun x=>x !=c) hd];exact i2
theorem count_none {c:UInt8}{a:B}(h:∀d∈a,d≠c):a.count c=0:=List.count_eq_zero.2 (fun hm=>h c hm rfl)
theorem vV {c:UInt8}{a:B}(h:∀d∈a,d≠c):a.contains c=false:=by rw[<-Bool.not_eq_true,List.contains_iff_mem];exact fun hm=>h c hm rfl
theorem RP:∀k:Fin 39,∃s,opNames[k.val]? =some s/\Qg s=(k.val:Int)+1/\bI s=true/\(∀c∈s,c≠58/\c≠44/\c≠42/\c≠47/\c≠62):=by decide+kernel
theorem NT (n:Int)(h1:1<=n)(h2:n<=39):Qg (jG n)=n/\bI (jG n)=true/\∀c∈jG n,c≠58/\c≠44/\c≠42/\c≠47/\c≠62:=by
 obtain⟨s,e1,e2,e3,e4⟩:=RP ⟨(n - 1).toNat,by omega⟩;have:jG n=s:=by unfold jG pick;rw[if_neg (by omega)];simp only at e1;rw[e1];rfl
 rw[this];simp only at e2;exact⟨by omega,e3,e4⟩
theorem Rz (i:Ins)(h:1<=i.op/\i.op<=39/\N9 i.a)(e:Int):Kz e (bW i)=e/\JZ (bW i)=i/\(bW i).count 58<=1/\bI (bW i)=true:=by
 obtain⟨h1,h2,h3⟩:=h;obtain⟨f1,f2,f3⟩:=NT i.op h1 h2;have hc:∀d∈jG i.op,d≠58:=fun d hd=>(f3 d hd).1
 by_cases h0:i.a=0
 ·have e1:bW i=jG i.op:=by simp[bW,h0]
  obtain⟨c1,c2⟩:=WJ hc;rw[e1,Kz,JZ,vV hc,c1,f1,count_none hc];refine⟨?_,?_,by omega,f2⟩
  ·simp;omega
  cases i
  simp_all
 have e1:bW i=jG i.op++58::af i.a:=by simp[bW,h0]
 obtain⟨c1,c2⟩:=IX (b:=af i.a) hc;have hm:(jG i.op++58::af i.a).contains 58=true:=by simp
 have hn:∀d∈af i.a,d≠58:=fun d hd=>(gI (lZ _ d hd)).2.1
 rw[e1,Kz,JZ,if_pos hm,if_pos hm,c1,c2,f1,(dI i.a h3).2];refine⟨?_,?_,?_,?_⟩
 ·rw[if_neg (by omega),fA _ h3]
 ·cases i;rfl
 ·rw[List.count_append,List.count_cons,count_none hc,count_none hn];simp
 simp only[bI,ag1,Bool.not_eq_true',List.isEmpty_eq_false_iff,ahc,agJ,agQ];refine⟨by simp,fun c hc=> ?_⟩;rcases hc with hc|rfl|hc
 ·exact tX f2 c hc
 ·decide
 exact(gI (lZ _ c hc)).1
theorem xg (p:List Ins)(h:jr p)(e:Int):(p.map bW).foldl Kz e=e/\(p.map bW).map JZ=p/\FD (p.map bW)=true/\∀w∈p.map bW,bI w=true:=by
 induction p generalizing e with
 |nil=>exact⟨rfl,rfl,rfl,by simp⟩
 |cons i r ih=>
  obtain⟨a1,a2,a3,a4⟩:=Rz i (h i (by simp)) e;obtain⟨b1,b2,b3,b4⟩:=ih (fun j hj=>h j (by simp[hj])) e;refine⟨?_,?_,?_,?_⟩
  ·rw[agO,ag4,a1,b1]
  ·rw[agO,agO,a2,b2]
  ·unfold FD at b3 ⊢;rw[agO,List.all_cons,b3];simpa using a3
  intro w hw;rw[agO,agQ] at hw;rcases hw with rfl|hw
  ·exact a4
  exact b4 w hw
theorem U6 (p:Pt)(h:N9 p.x/\N9 p.y)(e:Int):OX e (iE p)=e/\NW (iE p)=p/\CY (iE p)=true/\bI (iE p)=true:=by
 obtain⟨h1,h2⟩:=h;have n1:∀d∈af p.x,d≠44:=fun d hd=>(gI (lZ _ d hd)).2.2.1
 have n2:∀d∈af p.y,d≠44:=fun d hd=>(gI (lZ _ d hd)).2.2.1
 have s1:∀d∈af p.x,d≠42:=fun d hd=>(gI (lZ _ d hd)).2.2.2.1
 have s2:∀d∈af p.y,d≠42:=fun d hd=>(gI (lZ _ d hd)).2.2.2.1
 have hs:∀d∈af p.x++44::af p.y,d≠42:=by
  intro d hd;rw[agJ,agQ] at hd;rcases hd with hd|rfl|hd
  ·exact s1 d hd
  ·decide
  exact s2 d hd
 obtain⟨c1,c2⟩:=IX (b:=af p.y) n1;have hcnt:(af p.x++44::af p.y).count 44=1:=by rw[List.count_append,List.count_cons,count_none n1,count_none n2];simp
 have htok:∀c∈af p.x++44::af p.y,uQ c=true:=by
  intro d hd;rw[agJ,agQ] at hd;rcases hd with hd|rfl|hd
  ·exact(gI (lZ _ d hd)).1
  ·decide
  exact(gI (lZ _ d hd)).1
 cases hon:p.on with
 |true=>
  have e1:iE p=af p.x++44::af p.y:=by simp[iE,hon]
  have hl:(af p.x++44::af p.y).getLast? ≠some 42:=fun h=>hs 42 (List.mem_of_getLast? h) rfl
  have hu:qw (af p.x++44::af p.y)=af p.x++44::af p.y:=by rw[qw,if_neg hl]
  rw[e1,OX,NW,CY,hu,c1,c2,hcnt,vV hs,fA _ h1,fA _ h2,(dI _ h1).2,(dI _ h2).2];refine⟨rfl,?_,rfl,?_⟩
  ·cases p
   simp_all
  simp only[bI,ag1,Bool.not_eq_true',List.isEmpty_eq_false_iff,ahc];exact⟨by simp,htok⟩
 |false=>
  have e1:iE p=(af p.x++44::af p.y)++[42]:=by simp[iE,hon]
  have hl:((af p.x++44::af p.y)++[42]).getLast? =some 42:=List.getLast?_concat;have hu:qw ((af p.x++44::af p.y)++[42])=af p.x++44::af p.y:=by rw[qw,if_pos hl,List.dropLast_concat]
  have hcnt2:((af p.x++44::af p.y)++[42]).count 44=1:=by rw[List.count_append,hcnt];rfl
  have hidx:((af p.x++44::af p.y)++[42]).idxOf 42=(af p.x++44::af p.y).length:=by rw[List.idxOf_append,if_neg (fun hm=>hs 42 hm rfl)];simp
  rw[e1,OX,NW,CY,hu,c1,c2,hcnt2,hidx,hl,fA _ h1,fA _ h2,(dI _ h1).2,(dI _ h2).2];refine⟨rfl,?_,?_,?_⟩
  ·cases p
   simp_all
  ·simp
  simp only[bI,ag1,Bool.not_eq_true',List.isEmpty_eq_false_iff,ahc,agJ (s:=af p.x++44::af p.y),agF];refine⟨by simp,fun c hc=> ?_⟩;rcases hc with hc|rfl
  ·exact htok c hc
  decide
theorem Ip (l:List Pt)(h:∀p∈l,N9 p.x/\N9 p.y)(e:Int):(l.map iE).foldl OX e=e/\(l.map iE).map NW=l/\(l.map iE).all CY=true/\∀w∈l.map iE,bI w=true:=by
 induction l generalizing e with
 |nil=>exact⟨rfl,rfl,rfl,by simp⟩
 |cons p r ih=>
  obtain⟨a1,a2,a3,a4⟩:=U6 p (h p (by simp)) e;obtain⟨b1,b2,b3,b4⟩:=ih (fun q hq=>h q (by simp[hq])) e;refine⟨?_,?_,?_,?_⟩
  ·rw[agO,ag4,a1,b1]
  ·rw[agO,agO,a2,b2]
  ·rw[agO,List.all_cons,b3,a3];rfl
  intro w hw;rw[agO,agQ] at hw;rcases hw with rfl|hw
  ·exact a4
  exact b4 w hw
end
end Go.Proofs.YtkijckccfookeaaDoor
