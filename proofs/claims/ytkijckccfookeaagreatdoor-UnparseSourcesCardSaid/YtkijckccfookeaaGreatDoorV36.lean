/- Lemmas. -/
import Derived.Test.YtkijckccfookeaaGreatDoorPbF
import Derived.Test.YtkijckccfookeaaGreatDoorPrF
import Derived.Laws.CopyOwn
import Derived.Test.YtkijckccfookeaaGreatDoorCards
import Derived.Test.YtkijckccfookeaaGreatDoorTie
import Derived.ProofKit
import Derived.OpenShut
import Derived.ShutString
import Derived.LaidMore
import Derived.Lay
set_option linter.unusedVariables false
set_option linter.unusedSimpArgs false
set_option maxRecDepth 100000
set_option maxHeartbeats 32000000
namespace Go.Proofs.YtkijckccfookeaaGreatDoor
section
open Go.RowKit
theorem aif.drew {w:World}{A:Option Addr}{n:Nat}{ws:List P3}(h:aif w A n ws):aif w.drew A n ws:=⟨h.rd.below (akl _ w).drew,h.len,h.few⟩
theorem ain.drew {w:World}(h:ain w):ain w.drew:=h.below (akl _ w).drew
def Ws (f:B->Option Value)(w:World)(Bd p gm cm:Nat)(gl:Gl)(s:PS)(K:Nat)(A:Option Addr)(n c:Nat)(t:B)(l:List B):Prop:=
 (f t=none/\stmt gl s (t::l)= .error 22)\/
 (∃F,f t=some (pV p F)/\(∀(args:Array Value) (w:World),(callFunc F args).run Tryz.prog w= .ok (.enter F args) w)/\Calls Tryz.prog F #[.pointer (some ⟨p,0,none⟩),.slice A n c] w (ahS w Bd p gm cm gl (K+n) (stmt gl s (t::l))))\/
 (∃F a b,f t=some (cV F a b)/\(∀(args:Array Value) (w:World),(callFunc F args).run Tryz.prog w= .ok (.enter F args) w)/\Calls Tryz.prog F #[.slice A n c,.pointer (some ⟨a,0,none⟩),.pointer (some ⟨b,0,none⟩)] w (ahS w Bd p gm cm gl (K+n) (stmt gl s (t::l))))
theorem UE {f:B->Option Value}{M:Nat}{jk jo oZ pz jS jT lV lX oV pg oU pF:Nat}(w:World)(Bd p gm cm:Nat)(gl:Gl)(s:PS)(rv:Rows)(K:Nat)(A:Option Addr)(n c:Nat)(ws:List P3)(t:B)(l:List B)(hM:ajb w p M f jk jo oZ pz jS jT lV lX oV pg oU pF)(hP:PSt w Bd p gm cm gl s rv K)(hL:aif w A n ws)(hT:af ws=t::l)(hK9:K<=1000000000)(hc:n<=c)(jr:ain w)(yQ:nT<=Bd):
  Ws f w Bd p gm cm gl s K A n c t l:=by
 have hK:K<=10000000000:=by omega
 by_cases hUnit:t=jK
 ·subst hUnit;refine .inr (.inl ⟨73,hM.akc,fun _ _=>enters_of Tryz.func73 (by kernel_rfl) rfl _ _,?_⟩);rw[Ot];exact Nu w Bd p gm cm gl s rv K A n c ws _ l hP hL hT
 by_cases hAxis:t=oW
 ·subst hAxis;refine .inr (.inl ⟨74,hM.aka,fun _ _=>enters_of Tryz.func74 (by kernel_rfl) rfl _ _,?_⟩);rw[Oq];exact Nh w Bd p gm cm gl s rv K A n c ws _ l hP hL hT hK
 by_cases hRegion:t=iM
 ·subst hRegion;refine .inr (.inl ⟨75,hM.ajQ,fun _ _=>enters_of Tryz.func75 (by kernel_rfl) rfl _ _,?_⟩);rw[IJ];exact Ja w Bd p gm cm gl s rv K A n c ws _ l hP hL hT hK hc
 by_cases hCvt:t=kF
 ·subst hCvt;refine .inr (.inl ⟨76,hM.akk,fun _ _=>enters_of Tryz.func76 (by kernel_rfl) rfl _ _,?_⟩);rw[Td];exact QN w Bd p gm cm gl s rv K A n c ws _ l hP hL hT hK hc
 by_cases hFunc:t=mX
 ·subst hFunc;refine .inr (.inl ⟨77,hM.akd,fun _ _=>enters_of Tryz.func77 (by kernel_rfl) rfl _ _,?_⟩);rw[Pj];exact MX w Bd p gm cm gl s rv K A n c ws _ l hP hL hT hK hc jr yQ
 by_cases hClass:t=sH
 ·subst hClass;refine .inr (.inl ⟨78,hM.ajX,fun _ _=>enters_of Tryz.func78 (by kernel_rfl) rfl _ _,?_⟩);rw[VO];exact KN w Bd p gm cm gl s rv K A n c ws _ l hP hL hT hc
 by_cases hGlyph:t=dM
 ·subst hGlyph;refine .inr (.inl ⟨79,hM.ajV,fun _ _=>enters_of Tryz.func79 (by kernel_rfl) rfl _ _,?_⟩);rw[Lp];exact JB w Bd p gm cm gl s rv K A n c ws _ l hP hL hT hK
 by_cases hContour:t=eX
 ·subst hContour;refine .inr (.inr ⟨129,jk,jo,hM.ajx,fun _ _=>enters_of Tryz.func129 (by kernel_rfl) rfl _ _,?_⟩);rw[ES];exact oN 81 (fun _ _=>enters_of Tryz.func81 (by kernel_rfl) rfl _ _) w Bd p gm cm gl s rv K (K+n) A n c jk jo (gK s l) hP (hM.ahX.par.cell 0) (hM.ahX.fn.cell 0) (fun e=>by unfold gK;rw[if_pos e])
   (fun init g hs G n0 c9 h0=>FN w.drew Bd p gm cm gl s rv K A n c ws _ l (hP.drewN 1) hL.drew hT hK9 hc hs h0 rfl) hK
 by_cases hPart:t=mY
 ·subst hPart;refine .inr (.inr ⟨129,oZ,pz,hM.akb,fun _ _=>enters_of Tryz.func129 (by kernel_rfl) rfl _ _,?_⟩);rw[OH];exact oN 82 (fun _ _=>enters_of Tryz.func82 (by kernel_rfl) rfl _ _) w Bd p gm cm gl s rv K (K+n) A n c oZ pz (ou gl s l) hP (hM.aie.par.cell 0) (hM.aie.fn.cell 0) (fun e=>by unfold ou;rw[if_pos e])
   (fun init g hs G n0 c9 h0=>NT w.drew Bd p gm cm gl s rv K A n c ws _ l (hP.drewN 1) hL.drew hT hK hs h0 rfl) hK
 by_cases hAnchor:t=jd
 ·subst hAnchor;refine .inr (.inr ⟨129,jS,jT,hM.ajT,fun _ _=>enters_of Tryz.func129 (by kernel_rfl) rfl _ _,?_⟩);rw[II];exact oN 83 (fun _ _=>enters_of Tryz.func83 (by kernel_rfl) rfl _ _) w Bd p gm cm gl s rv K (K+n) A n c jS jT (iJ s l) hP (hM.ah8.par.cell 0) (hM.ah8.fn.cell 0) (fun e=>by unfold iJ;rw[if_pos e])
   (fun init g hs G n0 c9 h0=>Jm w.drew Bd p gm cm gl s rv K A n c ws _ l (hP.drewN 1) hL.drew hT hK jr.drew hs h0 rfl) hK
 by_cases hDelta:t=kC
 ·subst hDelta;refine .inr (.inr ⟨129,lV,lX,hM.aj2,fun _ _=>enters_of Tryz.func129 (by kernel_rfl) rfl _ _,?_⟩);rw[LV];exact oN 84 (fun _ _=>enters_of Tryz.func84 (by kernel_rfl) rfl _ _) w Bd p gm cm gl s rv K (K+n) A n c lV lX (lC s l) hP (hM.aio.par.cell 0) (hM.aio.fn.cell 0) (fun e=>by unfold lC;rw[if_pos e])
   (fun init g hs G n0 c9 h0=>MS w.drew Bd p gm cm gl s rv K A n c ws _ l (hP.drewN 1) hL.drew hT hK hc hs h0 rfl) hK
 by_cases hHint:t=kP
 ·subst hHint;refine .inr (.inr ⟨129,oV,pg,hM.ake,fun _ _=>enters_of Tryz.func129 (by kernel_rfl) rfl _ _,?_⟩);rw[OY];exact oN 85 (fun _ _=>enters_of Tryz.func85 (by kernel_rfl) rfl _ _) w Bd p gm cm gl s rv K (K+n) A n c oV pg (oz s l) hP (hM.aiw.par.cell 0) (hM.aiw.fn.cell 0) (fun e=>by unfold oz;rw[if_pos e])
   (fun init g hs G n0 c9 h0=>NV w.drew Bd p gm cm gl s rv K A n c ws _ l (hP.drewN 1) hL.drew hT hK hc jr.drew yQ hs h0 rfl) hK
 by_cases hChar:t=pq
 ·subst hChar;refine .inr (.inl ⟨86,hM.aj9,fun _ _=>enters_of Tryz.func86 (by kernel_rfl) rfl _ _,?_⟩);rw[O4];exact Nc w Bd p gm cm gl s rv K A n c ws _ l hP hL hT hK
 by_cases hLookup:t=fH
 ·subst hLookup;refine .inr (.inl ⟨87,hM.ajR,fun _ _=>enters_of Tryz.func87 (by kernel_rfl) rfl _ _,?_⟩);rw[Ik];exact I7 w Bd p gm cm gl s rv K A n c ws _ l hP hL hT hK jr
 by_cases hRule:t=dF
 ·subst hRule;refine .inr (.inr ⟨133,oU,pF,hM.akg,fun _ _=>enters_of Tryz.func133 (by kernel_rfl) rfl _ _,?_⟩);rw[Px];exact MR 89 (fun _ _=>enters_of Tryz.func89 (by kernel_rfl) rfl _ _) w Bd p gm cm gl s rv K (K+n) A n c oU pF (ed gl s l) hP (hM.aiR.par.cell 0) (hM.aiR.fn.cell 0) (fun e=>by unfold ed;rw[e];rfl)
   (fun init g hs G n0 c9 h0=>MZ w.drew Bd p gm cm gl s rv K A n c ws _ l (hP.drewN 1) hL.drew hT hK hc hs h0 rfl) hK
 by_cases hFeature:t=iw
 ·subst hFeature;refine .inr (.inl ⟨90,hM.ajO,fun _ _=>enters_of Tryz.func90 (by kernel_rfl) rfl _ _,?_⟩);rw[EX];exact Gg w Bd p gm cm gl s rv K A n c ws _ l hP hL hT hK hc
 refine .inl ⟨hM.none t hUnit hAxis hRegion hCvt hFunc hClass hGlyph hContour hPart hAnchor hDelta hHint hChar hLookup hRule hFeature,?_⟩;simp only[stmt,hUnit,hAxis,hRegion,hCvt,hFunc,hClass,hGlyph,hContour,hPart,hAnchor,hDelta,hHint,hChar,hLookup,hRule,hFeature,if_false]
attribute [-go_sem] storeVar
abbrev mO:TypeId:=32
abbrev oq:Array Value:= #[.int .i64 0,.slice none 0 0,.slice none 0 0,.slice none 0 0,.slice none 0 0,.slice none 0 0,.slice none 0 0,.slice none 0 0,.slice none 0 0]
def ai3 (w:World)(r:Except (Int×Int) Fnt)(e:Ending)(w':World):Prop:=
 Below w.heap.size w w'/\match r with
  | .ok f=>∃fc:List Value,e= .returned (.tuple #[.agg fc.toArray,.int .i64 0,.int .i64 0])/\aim w' (Dt w') fc f
  | .error (n,c)=>e= .returned (.tuple #[.agg oq,.int .i64 n,.int .i64 c])
theorem F6:(Tryz.prog.info? mO).map (·.size)=some 9:=by kernel_rfl
theorem Ji {fn:Func}{p u v:Tmp}{ty:TypeId}(h:fn.results= #[.cell p ty,.tmp u,.tmp v])(tmps:Array Value)(P:Program)(w:World):
  (results fn tmps).run P w=((asAddr (tmps.getD p undef)).run P w).andThen fun a w₁=>((loadVar ty a).run P w₁).andThen fun x w₂=> .ok (.tuple #[x,tmps.getD u undef,tmps.getD v undef]) w₂:=by
 simp only[results,h];simp[Sem.run_bind,Result.andThen]
theorem BB {W:World}{g:Nat}{cs:Array Value}{v u:Value}{tmps:Array Value}(hb:Bk W g mO cs)(hsz:cs.size=9)(h2:tmps.getD 2 undef= .pointer (some ⟨g,0,none⟩))(h3:tmps.getD 3 undef=v)(h4:tmps.getD 4 undef=u):(results Tryz.f19 tmps).run Tryz.prog W= .ok (.tuple #[.agg cs,v,u]) W:=by have:=run_loadVar_row (P:=Tryz.prog) W g mO mO cs (0,0) _ hb Tryz.underlying32 rfl (by rw[F6,hsz]);rw[Ji (fn:=Tryz.f19) (p:=2) (u:=3) (v:=4) (ty:=mO) rfl,h2,h3,h4];simp[asAddr,Result.andThen,this]
theorem Xo (w:World):(zeroValue 121).run Tryz.prog w= .ok Value.nilFunc w:=by kernel_rfl
theorem abf (w:World):(Instr.makeMap 114 none).run Tryz.prog w= .ok (.map (some w.heap.size)) (w.alloc (.map #[] 0)):=by
 simp[Instr.makeMap,Result.andThen,newObj,go_sem]
 try rfl
structure FSt (w5:World)(Bd p gm cm:Nat)(gl:Gl)(L:List (Int×List B))(rows:List (List P3))(k:Nat)(s:PS)(rv:Rows)(wr:World):Prop where
 st:PSt wr Bd p gm cm gl s rv (tot (rows.take k))
 kq:KQ cm w5 wr
 low:Below Bd w5 wr
 ok:stmts gl ps0 (L.take k)= .ok s
theorem KQ.rows {cm:Nat}{w w':World}(h:KQ cm w w'){hs:List Value}{rows:List (List P3)}(hr:RowsIn dW w hs rows):RowsIn dW w' hs rows:=hr.kept fun _ _ _ hr=>h.rdT hr (by decide) (by decide)
theorem KQ.akj {κ :Type}{E:Emb κ}{cm:Nat}{w w':World}{b:Nat}{f: κ ->Option Value}(h:KQ cm w w')(hm:ah0 E w b f)(hne:b≠cm):ah0 E w' b f:=by obtain⟨es,clock,kv,h1,h2⟩:=hm;exact⟨es,clock,kv,h.same b _ h1 hne,h2⟩
theorem KQ.boxes {cm:Nat}{w w':World}(h:KQ cm w w'){t:TypeId}{p F a b:Nat}(hb:aib w t p F a b)(h1:lJ t=false)(h2:t≠jq):aib w' t p F a b:=⟨h.bk hb.par (by decide) (by decide),h.bk hb.fn h1 h2⟩
theorem ZL {w:World}{A:Option Addr}{n k:Nat}{hs:List Value}{rows:List (List P3)}(hr:RdT w 119 A n 1 hs)(hin:RowsIn dW w hs rows)(hk:k<n):
  ∃b o r Ar kr cr,A=some ⟨b,o,none⟩/\Hid (rows[k]? =some r)/\b<w.heap.size/\w.cell? ⟨b,o+k,none⟩=some (.slice Ar kr cr)/\RdT w dW Ar kr 3 (dA r)/\kr=r.length/\kr<=cr:=Ol hr hin (akl _ _) hk
theorem ajb.kq {cm:Nat}{w w':World}{p M:Nat}{f:B->Option Value}{jk jo oZ pz jS jT lV lX oV pg oU pF:Nat}(h:ajb w p M f jk jo oZ pz jS jT lV lX oV pg oU pF)(k:KQ cm w w')(hne:M≠cm):ajb w' p M f jk jo oZ pz jS jT lV lX oV pg oU pF:={h with map:=k.akj h.map hne,ahX:=k.boxes h.ahX (by decide) (by decide),aie:=k.boxes h.aie (by decide) (by decide),ah8:=k.boxes h.ah8 (by decide) (by decide),aio:=k.boxes h.aio (by decide) (by decide),aiw:=k.boxes h.aiw (by decide) (by decide),aiR:=k.boxes h.aiR (by decide) (by decide)}
theorem ain.low {w w':World}{Bd:Nat}(h:ain w)(hb:Below Bd w w')(hn:nT<=Bd):ain w':=by
 exact⟨h.ops.keep (hb.block _ (by
   have:0<nT:=by decide
   omega)),h.anch.keep (hb.block _ (by
     have:2<nT:=by decide
     omega)),h.kinds.keep (hb.block _ (by
       have:3<nT:=by decide
       omega))⟩
theorem WG {src:B}{k:Nat}{x:Wd}{q:List Wd}(h:(fJ src)[k]? =some (x::q)):(linesT src)[k]? =some (x.1,x.2.2::q.map (·.2.2)):=by unfold linesT;rw[akO,h];rfl
theorem TF {src:B}{k:Nat}{no e:Int}{l:List B}{s:PS}(h:stmts (aP 0 ((linesT src).map (·.2))) ps0 ((linesT src).take k)= .ok s)(hk:(linesT src)[k]? =some (no,l))(he:stmt (aP 0 ((linesT src).map (·.2))) s l= .error e):jv src= .error (no,e):=by unfold jv;rw[UT h hk he];rfl
theorem Qc {src:B}{s:PS}(h:stmts (aP 0 ((linesT src).map (·.2))) ps0 (linesT src)= .ok s):jv src= .ok s.f:=by unfold jv;rw[h];rfl
theorem Qw (src:B):(linesT src).map (·.2)=aJ (fJ src):=by unfold linesT aJ;rw[ak6];rfl
theorem LM (w:World)(src:B)(hs:src.length<=800000000)(jr:ain w)(yQ:nT<=w.heap.size):Calls Tryz.prog 19 #[.string ⟨src.toArray⟩] w (ai3 w (jv src)):=by
 have hmk:=fun w=>abf w
 go_enter Tryz.func19,Tryz.ntmps19
 go_wp2_with fail
 refine(XK _ src hs).mono ?_;rintro e w1 ⟨v,rfl,A,c,hs1,rfl,hrd,hri,hb1⟩;have hlm:∀r∈fJ src,r.length<=800000000/\∀x∈r,x.2.2.length<=800000000:=Nv src hs;have hR1:Bk w1 w.heap.size mO oq:=(Bk.new w mO oq).keep (hb1.block _ (by simp));have hT1:ain w1:=(jr.below ((akl _ _).alloc (nr _) _)).below hb1;have hz1:w.heap.size+1<=w1.heap.size:=by have:=hb1.size;simpa using this
 have uI:Below w.heap.size w w1:=((akl w.heap.size w).alloc (nr _) (.cells oq mO)).trans (hb1.mono (by simp));have hfew:=Tu src;have htot:=He src;have hgl:=I9 w1 A (fJ src).length c (fJ src) hs1 hrd hri (by omega) (Em src) (fun r hr=>⟨by have:=(hlm r hr).1;omega,(hlm r hr).2⟩);rw[<-Qw] at hgl;have hgI:Hid (∀t n,(aP 0 ((linesT src).map (·.2))).lookup t=some n->n<=1000000000):=fun t n h=>by
  have h1:=Uc 0 _ t n h;have h2:=OX ((linesT src).map (·.2));rw[Qw] at h2;unfold aJ at h2;rw[aks] at h2;rw[Qw] at h1;unfold aJ at h1;omega
 have HPB:Hid (∀(k:Nat) (no e:Int) (l:List B) (s:PS),stmts (aP 0 ((linesT src).map (·.2))) ps0 ((linesT src).take k)= .ok s->(linesT src)[k]? =some (no,l)->stmt (aP 0 ((linesT src).map (·.2))) s l= .error e->jv src= .error (no,e)):=fun k no e l s h1 h2 h3=>TF h1 h2 h3
 have HPG:Hid (∀s,stmts (aP 0 ((linesT src).map (·.2))) ps0 (linesT src)= .ok s->jv src= .ok s.f):=fun s h=>Qc h
 have HLA:Hid (∀(k:Nat) (x:Wd) (q:List Wd),(fJ src)[k]? =some (x::q)->(linesT src)[k]? =some (x.1,x.2.2::q.map (·.2.2))):=fun k x q h=>WG h
 have HNE:=hd0 (Em src);have hlen2:Hid ((linesT src).length=(fJ src).length):=by show _=_;unfold linesT;rw[aks]
 generalize aP 0 ((linesT src).map (·.2))=gl at*
 have HT1:=hd0 hT1;have HR1:=hd0 hR1;have HLW:=hd0 uI;have EN:=hd0 hrd;have HRI:=hd0 hri;have HLM:=hd0 hlm;generalize linesT src=LT at*
 generalize fJ src=LL at*
 generalize rV:jv src=PA at*
 clear rV hT1 hR1 uI hrd hri hlm hb1 jr;go_wp2_with fail
 refine hgl.mono ?_;rintro e w2 ⟨gm,rfl,hgm,hgF,hb2⟩;have hz2:=hb2.size;have HGF:=hd0 hgF;have HB2:=hd0 hb2;clear hgl hgF hb2;go_wp2_with fail
 obtain⟨w4,hw4⟩:∃x,((w2.alloc (.map #[] 0)).alloc (.cells #[.int .i64 0,.slice none 0 0,.slice none 0 0,.slice none 0 0,.slice none 0 0,.slice none 0 0,.slice none 0 0,.slice none 0 0,.slice none 0 0,.bool false,.map (some gm),.map (some w2.heap.size)] jq))=x:=⟨_,rfl⟩
 rw[hw4];have Yb:Bk w4 (w2.heap.size+1) jq (dV ps0 EC gm w2.heap.size):=by
  have:=Bk.new (w2.alloc (.map #[] 0)) jq #[.int .i64 0,.slice none 0 0,.slice none 0 0,.slice none 0 0,.slice none 0 0,.slice none 0 0,.slice none 0 0,.slice none 0 0,.slice none 0 0,.bool false,.map (some gm),.map (some w2.heap.size)];have e:(w2.alloc (.map #[] 0)).heap.size=w2.heap.size+1:=by simp
  rw[hw4,e] at this;exact this
 have hb4:Below w2.heap.size w2 w4:=hw4 ▸ ((akl _ _).alloc (nr _) _).alloc (by simp) _;have acj:ah0 lU w4 w2.heap.size (fun _=>none):=hw4 ▸ ((ah0.new lU w2).below ((akl _ _).alloc (nr _) _));have IM:w2.heap.size+2<=w4.heap.size:=by rw[<-hw4];simp
 clear hw4;have ahH:=HGF.out.lt;have CU:=hd0 (PSt.start (Bd:=w1.heap.size) Yb (HGF.out.below hb4) acj hgI.out ⟨by omega,by omega,by omega,by omega⟩);have HB4:=hd0 hb4;clear Yb hb4 acj hmk;refine(Jl w4 _).mono ?_;rintro e w6 ⟨M,f,jk,jo,oZ,pz,jS,jT,lV,lX,oV,pg,oU,pF,rfl,hM,aaL,hb6⟩;have afc:=hd0 aaL;have vk:=hd0 (CU.out.below hb6);have h16:Below w1.heap.size w1 w6:=HB2.out.trans ((HB4.out.trans (hb6.mono (by omega))).mono hz2);have RI:Hid (∀W,Below w1.heap.size w1 W->(storeVar mO ⟨w.heap.size,0,none⟩ (.agg oq)).run Tryz.prog W.drew= .ok () W.drew/\∀tmps (no e:Int),PA= .error (no,e)->tmps.getD 2 undef= .pointer (some ⟨w.heap.size,0,none⟩)->tmps.getD 3 undef= .int .i64 no->tmps.getD 4 undef= .int .i64 e->bodyPost Tryz.prog Tryz.f19 (ai3 w PA) Exit.ret ⟨tmps,[]⟩ W.drew):=fun W hW=>by
  have hb:Bk W w.heap.size mO oq:=HR1.out.keep (hW.block _ (by omega));refine⟨?_,fun tmps no e hp t2 t3 t4=> ?_⟩
  ·have h:=run_storeVar_row (P:=Tryz.prog) W.drew w.heap.size mO mO oq oq hb (by rw[F6];rfl) rfl (by simp[Value.oneCell']);rw[setRow_self W.drew w.heap.size oq mO (0,0) hb] at h;exact h
  have hb2:Bk W.drew w.heap.size mO oq:=hb;refine bodyPost_ret (BB hb2 rfl t2 t3 t4) rfl ⟨(HLW.out.trans (hW.mono HLW.out.size)).drew,?_⟩;rw[hp]
 have hz6:=hb6.size;have hne:M≠w2.heap.size:=by omega
 have hzw:w.heap.size+1<=w6.heap.size:=by omega
 have H16:=hd0 h16;clear aaL hb6 h16 CU HB4 HB2 HGF hgI;go_wp2_with fail
 go_loopw [24] (fun i wr=>∃k s rv,k<=LL.length/\i= .int .i64 (k:Nat)/\FSt w6 w1.heap.size (w2.heap.size+1) gm w2.heap.size gl LT LL k s rv wr) (fun i _=>LL.length - (intOf i).toNat)
 case atStart=>exact⟨0,ps0,EC,nz _,rfl,⟨by rw[List.take_zero];exact vk.out,KQ.refl _ _,akl _ _,by rw[List.take_zero];rfl⟩⟩
 case round=>
  obtain⟨k,s,rv,hk,rfl,hst⟩:=hrel;have hbW:Below w1.heap.size w1 wr:=H16.out.trans hst.low;have OV:=hd0 hbW;have zR:w.heap.size<wr.heap.size:=by have:=hbW.size;omega
  obtain⟨Eg,-⟩:=RI.out wr hbW;by_cases hlt:k<LL.length
  ·obtain⟨b,o,r,Ar,kr,cr,rfl,hp,Gx,q1w,G5,hkr,hkc⟩:=ZL EN.out HRI.out hlt;have q1:wr.cell? ⟨b,o+k,none⟩=some (.slice Ar kr cr):=((aj hbW).1 _ _ Gx).trans q1w;have hbw:=aku Gx hbW.size;have hrd:=G5.below hbW;have hrm:=akt hp.out;have hLn:aif wr Ar kr r:=⟨hrd,(HLM.out r hrm).2,by rw[hkr];have:=(HLM.out r hrm).1;omega⟩
   obtain⟨x,q,rfl⟩:∃x q,r=x::q:=by
    cases r with
    |nil=>exact absurd rfl (HNE.out _ hrm)
    |cons x q=>exact⟨x,q,rfl⟩
   have htx:af (x::q)=x.2.2::q.map (·.2.2):=rfl;obtain⟨x1,x2,x3⟩:=x;have hkl:=HLA.out k _ q hp.out;simp only at hkl htx;obtain⟨htt,htn⟩:=Wj LL k _ hp.out;obtain⟨b1,o1,y1,y2,y3,rfl,hb1,hy,Yx,p1w,p2w⟩:=G5.rd.at3 (k:=0) (by rw[hkr];simp);have hy1:y1=x1/\y2=x2/\y3=x3:=by have:=hy.out;simp only[akw,akM,alb] at this;exact⟨this.1.symm,this.2.1.symm,this.2.2.symm⟩
   obtain⟨rfl,rfl,rfl⟩:=hy1;simp only[Nat.zero_mul,Nat.add_zero] at Yx p1w p2w;have p0:wr.cell? ⟨b1,o1,none⟩=some (.int .i64 y1):=((aj hbW).1 _ _ hb1).trans Yx;have p2:wr.cell? ⟨b1,o1+2,none⟩=some (.string ⟨y3.toArray⟩):=((aj hbW).1 _ _ hb1).trans p2w;have P0:Hid (∀W,Below w1.heap.size w1 W->W.cell? ⟨b1,o1,none⟩=some (.int .i64 y1)):=fun W hW=>((aj hW).1 _ _ hb1).trans Yx
   have Z1:Hid (∀W,Below w1.heap.size w1 W->b1<W.heap.size/\w.heap.size<W.heap.size):=fun W hW=>⟨aku hb1 hW.size,by have:=hW.size;omega⟩
   have hTk:=afc.out.kq hst.kq hne;have hcall:=UE wr w1.heap.size (w2.heap.size+1) gm w2.heap.size gl s rv (tot (LL.take k)) _ kr cr _ y3 (q.map (·.2.2)) hTk hst.st hLn htx (by omega) hkc (HT1.out.below hbW) (by omega);have hlk:=hTk.map.ai2 Tryz.underlying117 Tryz.underlying9 (Xo wr) y3;have HST:=hd0 hst;have hk0:0<kr:=by rw[hkr];simp
   have zV:=hd0 hkl;have HKR:=hd0 (show kr=((y1,y2,y3)::q).length from hkr);rw[<-hkr] at htn;have HTN:=hd0 htn;clear hkr htn htt hst hrd G5 hLn hTk hp hy htx hrm hkl q1w Yx p1w p2w Gx hkc hbW;rcases hcall with⟨hf,he⟩|⟨F,hf,hE,hC⟩|⟨F,a,b',hf,hE,hC⟩
   ·rw[hf] at hlk;have hlk2:(Instr.lookup 117 (.map (some M)) (.string ⟨y3.toArray⟩) true).run Tryz.prog wr= .ok (.tuple #[Value.nilFunc,.bool false]) wr:=hlk;have HE:=hd0 (HPB.out k _ _ _ _ HST.out.ok zV.out he);have yK:=hd0 (RI.out wr OV.out).2;clear hlk hf he;go_wp2_with fail
    go_region
    all_goals
     go_wp2
     (try simp only[Exit.inBlock,Exit.then])
     exact yK.out _ _ _ HE.out rfl rfl rfl
   ·skip
    rw[hf] at hlk;have hlk2:(Instr.lookup 117 (.map (some M)) (.string ⟨y3.toArray⟩) true).run Tryz.prog wr= .ok (.tuple #[.func (.func F) #[.pointer (some ⟨w2.heap.size+1,0,none⟩)] #[],.bool true]) wr:=hlk;cases hres:stmt gl s (y3::q.map (·.2.2)) with
    |error e9=>
     rw[hres] at hC;have HC:=hd0 hC;have HE:=hd0 (HPB.out k _ _ _ _ HST.out.ok zV.out hres);have he9:(e9 !=0)=true:=by simpa using FI _ _ _ _ hres
     clear hlk hf hC hres Eg;go_wp2_with fail
     refine HC.out.mono ?_;rintro e w7 ⟨hb7,rfl⟩;have yc:=OV.out.trans hb7;obtain⟨Eg,hfin⟩:=RI.out w7 yc;have yK:=hd0 hfin;have p07:=P0.out w7 yc;obtain⟨zb7,zR7⟩:=Z1.out w7 yc;clear hfin hb7 yc;go_wp2_with fail
     go_region
     all_goals
      go_wp2
      (try simp only[Exit.inBlock,Exit.then])
      exact yK.out _ _ _ HE.out rfl rfl rfl
    |ok s'=>
     rw[hres] at hC;have HC:=hd0 hC;have HSN:Hid (stmts gl ps0 (LT.take (k+1))= .ok s'):=by show _=_;rw[xH HST.out.ok zV.out,hres]
     clear hlk hf hC hres Eg;go_wp2_with fail
     refine HC.out.mono ?_;rintro e w7 ⟨hb7,rfl,JY,rv',UI⟩;have vJ:Hid (FSt w6 w1.heap.size (w2.heap.size+1) gm w2.heap.size gl LT LL (k+1) s' rv' w7):=⟨by rw[HTN.out];exact UI,HST.out.kq.trans JY,HST.out.low.trans hb7,HSN.out⟩
     clear hb7 JY UI;go_wp2_with fail
     go_roundw
     case rel=>exact⟨k+1,s',rv',by omega,by simp,vJ.out⟩
     case measure=>simp[intOf];omega
   skip
   rw[hf] at hlk;have hlk2:(Instr.lookup 117 (.map (some M)) (.string ⟨y3.toArray⟩) true).run Tryz.prog wr= .ok (.tuple #[.func (.func F) #[] #[.pointer (some ⟨a,0,none⟩),.pointer (some ⟨b',0,none⟩)],.bool true]) wr:=hlk;cases hres:stmt gl s (y3::q.map (·.2.2)) with
   |error e9=>
    rw[hres] at hC;have HC:=hd0 hC;have HE:=hd0 (HPB.out k _ _ _ _ HST.out.ok zV.out hres);have he9:(e9 !=0)=true:=by simpa using FI _ _ _ _ hres
    clear hlk hf hC hres Eg;go_wp2_with fail
    refine HC.out.mono ?_;rintro e w7 ⟨hb7,rfl⟩;have yc:=OV.out.trans hb7;obtain⟨Eg,hfin⟩:=RI.out w7 yc;have yK:=hd0 hfin;have p07:=P0.out w7 yc;obtain⟨zb7,zR7⟩:=Z1.out w7 yc;clear hfin hb7 yc;go_wp2_with fail
    go_region
    all_goals
     go_wp2
     (try simp only[Exit.inBlock,Exit.then])
     exact yK.out _ _ _ HE.out rfl rfl rfl
   |ok s'=>
    rw[hres] at hC;have HC:=hd0 hC;have HSN:Hid (stmts gl ps0 (LT.take (k+1))= .ok s'):=by show _=_;rw[xH HST.out.ok zV.out,hres]
    clear hlk hf hC hres Eg;go_wp2_with fail
    refine HC.out.mono ?_;rintro e w7 ⟨hb7,rfl,JY,rv',UI⟩;have vJ:Hid (FSt w6 w1.heap.size (w2.heap.size+1) gm w2.heap.size gl LT LL (k+1) s' rv' w7):=⟨by rw[HTN.out];exact UI,HST.out.kq.trans JY,HST.out.low.trans hb7,HSN.out⟩
    clear hb7 JY UI;go_wp2_with fail
    go_roundw
    case rel=>exact⟨k+1,s',rv',by omega,by simp,vJ.out⟩
    case measure=>simp[intOf];omega
  obtain rfl:k=LL.length:=by omega
  have hall:stmts gl ps0 LT= .ok s:=by
   have:=hst.ok
   rwa [akE (by rw[hlen2.out];exact nr _)] at this
  have HPA:=hd0 (HPG.out s hall);have hR9:Bk wr w.heap.size mO oq:=HR1.out.keep (hbW.block _ (by omega));have hdone:=hst.st.done;obtain⟨A1,c1,A2,c2,A3,c3,A4,c4,A5,c5,A6,c6,A7,c7,A8,c8,ee,d0,d1,d2,d3,d4,d5,d6,d7,d8⟩:=hst.st.done;have rV:=hst.st.par;have HDN:Hid (aim wr (Dt wr) [.int .i64 s.f.unit,.slice A1 s.f.ahO.length c1,.slice A2 s.f.chars.length c2,.slice A3 s.f.ahP.length c3,.slice A4 s.f.features.length c4,.slice A5 s.f.ahQ.length c5,.slice A6 s.f.regions.length c6,.slice A7 s.f.funcs.length c7,.slice A8 s.f.cvt.length c8] s.f):=by show aim _ _ _ _;rw[<-ee];exact hdone
  simp only[alf,and_true,true_and] at ee;obtain⟨e1,e2,e3,e4,e5,e6,e7,e8⟩:=ee;have m0:=rV.cell 0;have m1:=rV.cell 1;have m2:=rV.cell 2;have m3:=rV.cell 3;have m4:=rV.cell 4;have m5:=rV.cell 5;have m6:=rV.cell 6;have m7:=rV.cell 7;have m8:=rV.cell 8;simp only[dV,List.getElem?_toArray,akz,akw] at m0 m1 m2 m3 m4 m5 m6 m7 m8;rw[e1] at m1;rw[e2] at m2;rw[e3] at m3;rw[e4] at m4;rw[e5] at m5;rw[e6] at m6;rw[e7] at m7;rw[e8] at m8;have agq:=run_storeVar_row (P:=Tryz.prog) wr w.heap.size mO mO oq #[.int .i64 s.f.unit,.slice A1 s.f.ahO.length c1,.slice A2 s.f.chars.length c2,.slice A3 s.f.ahP.length c3,.slice A4 s.f.features.length c4,.slice A5 s.f.ahQ.length c5,.slice A6 s.f.regions.length c6,.slice A7 s.f.funcs.length c7,.slice A8 s.f.cvt.length c8] hR9 (by rw[F6];rfl) rfl (by simp[Value.oneCell']);have HR9:=hd0 hR9;have HLr:Hid (Below w.heap.size w wr):=HLW.out.trans (hbW.mono (by omega));have zp:=rV.lt;clear hst hall hR9 hdone d0 d1 d2 d3 d4 d5 d6 d7 d8 rV e1 e2 e3 e4 e5 e6 e7 e8 Eg hbW;go_wp2_with fail
  (try simp only[Exit.inBlock,Exit.then])
  refine bodyPost_ret (BB (setRow_heap wr w.heap.size oq _ mO (0,0) HR9.out) rfl rfl rfl rfl) rfl ⟨below_setRow HLr.out (nr _) _,?_⟩;rw[HPA.out];refine⟨_,rfl,?_⟩;have hsame:Same (Dt wr) wr (wr.setRow w.heap.size #[.int .i64 s.f.unit,.slice A1 s.f.ahO.length c1,.slice A2 s.f.chars.length c2,.slice A3 s.f.ahP.length c3,.slice A4 s.f.features.length c4,.slice A5 s.f.ahQ.length c5,.slice A6 s.f.regions.length c6,.slice A7 s.f.funcs.length c7,.slice A8 s.f.cvt.length c8]):=fun g ⟨cs,t,hk,hd⟩=>setRow_other _ _ _ _ (fun e=>by
   subst e;rw[(dR hk HR9.out).1] at hd
   revert hd
   decide)
  exact aim.ok.mono (aim.ok.keep HDN.out hsame) (fun g ⟨cs,t,hk,hd⟩=>⟨cs,t,(hsame g ⟨cs,t,hk,hd⟩).trans hk,hd⟩)
end
section
open Go.RowKit
theorem WX {src:B}{n c:Int}(h:jv src= .error (n,c)):c≠0:=by
 have key:∀(L:List (Int×List B)) (gl:Gl) (s:PS),stmts gl s L= .error (n,c)->c≠0:=by
  intro L;induction L with
  |nil=>intro gl s h;cases h
  |cons x r ih=>
   intro gl s h;obtain⟨m,l⟩:=x;rw[stmts] at h;have hz:=FI gl s l;split at h
   ·rename_i e he;rw[he] at hz;cases h;exact hz c rfl
   exact ih _ _ h
 unfold jv at h;cases hs:stmts (aP 0 ((linesT src).map (·.2))) ps0 (linesT src) with
 |error x=>rw[hs] at h;cases h;exact key _ _ _ hs
 |ok s=>rw[hs] at h;cases h
def Qy:Except (Int×Int) Fnt->Int×Int
 | .ok _=>(0,0)
 | .error x=>x
theorem ai3.nine {w:World}{r:Except (Int×Int) Fnt}{e:Ending}{w':World}(h:ai3 w r e w'):Below w.heap.size w w'/\∃(u:Int) (A1 A2 A3 A4 A5 A6 A7 A8:Option Addr) (n1 n2 n3 n4 n5 n6 n7 n8 c1 c2 c3 c4 c5 c6 c7 c8:Nat) (na ca:Int),
  e= .returned (.tuple #[.agg #[.int .i64 u,.slice A1 n1 c1,.slice A2 n2 c2,.slice A3 n3 c3,.slice A4 n4 c4,.slice A5 n5 c5,.slice A6 n6 c6,.slice A7 n7 c7,.slice A8 n8 c8],.int .i64 na,.int .i64 ca])/\na=(Qy r).1/\ca=(Qy r).2:=by
 obtain⟨h1,h2⟩:=h;refine⟨h1,?_⟩;cases r with
 |ok f=>obtain⟨fc,rfl,A1,c1,A2,c2,A3,c3,A4,c4,A5,c5,A6,c6,A7,c7,A8,c8,rfl,-⟩:=h2;exact⟨_,_,_,_,_,_,_,_,_,_,_,_,_,_,_,_,_,_,_,_,_,_,_,_,_,0,0,rfl,rfl,rfl⟩
 |error x=>exact⟨0,none,none,none,none,none,none,none,none,0,0,0,0,0,0,0,0,0,0,0,0,0,0,0,0,x.1,x.2,h2,rfl,rfl⟩
theorem Dt.ft {w:World}:∀b,Dt w b->FT w b:=fun _ ⟨_,t,h1,h2⟩=>by
 refine EL h1 (fun e=> ?_) (fun e=> ?_)
 ·subst e;exact absurd h2 (by decide)
 subst e;exact absurd h2 (by decide)
theorem Dt.ltS {w:World}:∀b,Dt w b->b<w.heap.size:=fun _ ⟨_,_,h,_⟩=>h.lt
theorem aim.dt {w w':World}{fc:List Value}{f:Fnt}(h:aim w (Dt w) fc f)(hb:Below w.heap.size w w'):aim w' (Dt w') fc f:=
 aim.ok.mono (aim.ok.keep h (fun b hb'=>hb.block b (Dt.ltS b hb'))) (fun b hb'=>by
  obtain⟨cs,t,hk,ht⟩:=hb';exact⟨cs,t,(hb.block b hk.lt).trans hk,ht⟩)
theorem aim.dtl {w:World}{fc:List Value}{f:Fnt}(h:aim w (Dt w) fc f):aim w (Lw w) fc f:=aim.ok.mono h Dt.ltS
theorem aiB.big {f:Fnt}(h:aiB f):∀g∈f.ahO,g.points.length<=1000000000/\g.ends.length<=1000000000:=fun g hg=>by
 have k:=h.ahO.each g hg;have a:=k.pts.1;have b:=k.ends.1;exact⟨by omega,by omega⟩
abbrev X8 (f:Fnt)(A1 A2 A3 A4 A5 A6 A7 A8:Option Addr)(c1 c2 c3 c4 c5 c6 c7 c8:Nat):Array Value:= #[.int .i64 f.unit,.slice A1 f.ahO.length c1,.slice A2 f.chars.length c2,.slice A3 f.ahP.length c3,.slice A4 f.features.length c4,.slice A5 f.ahQ.length c5,.slice A6 f.regions.length c6,.slice A7 f.funcs.length c7,.slice A8 f.cvt.length c8]
theorem zH (w:World)(s:B)(hT:Tabs w)(hG:nG<=w.heap.size)(jr:ain w)(yQ:nT<=w.heap.size):
  Calls Tryz.prog 4 #[.string ⟨s.toArray⟩] w fun e w'=>e= .returned (.bool true)/\Below w.heap.size w w':=by
 by_cases hl:3000<s.length
 ·have bl:decide ((3000:Int)<(s.length:Int))=true:=decide_eq_true (by omega);go_enter Tryz.func4,Tryz.ntmps4
  go_wp2_with fail
  go_ret
  exact⟨rfl,akl _ _⟩
 have bl:decide ((3000:Int)<(s.length:Int))=false:=decide_eq_false (by omega);have HPR:=hd0 (fun(v:World) (hb:Below w.heap.size w v)=>Qp v (hT.all hb) (nt hG hb.size));have X4:=hd0 (fun(v:World) (hb:Below w.heap.size w v) (t:B) (ht:t.length<=800000000)=>LM v t ht (jr.below hb) (nt yQ hb.size));have Yq:=hd0 (fun(v:World) (hb:Below w.heap.size w v) (f:Fnt) (fc:List Value) (hf:aim v (Dt v) fc f) (hk:aiB f)=>QF v f fc (hT.all hb) (nt hG hb.size) (aim.ok.mono hf Dt.ft) hk.big (nt hk.len (by decide)));have hp1:=X4.out w (akl _ _) s (by omega);clear hT hG jr yQ;cases hpl:jv s with
 |error x=>
  obtain⟨n,c⟩:=x;rw[hpl] at hp1;have SQ:=hd0 hp1;have hz:c≠0:=WX hpl;have hz1:(c !=0)=true:=by simpa using hz
  clear hpl hp1 X4 Yq;go_enter Tryz.func4,Tryz.ntmps4
  go_wp2_with fail
  refine SQ.out.mono ?_;rintro e w1 hp;obtain⟨hb1,u,A1,A2,A3,A4,A5,A6,A7,A8,n1,n2,n3,n4,n5,n6,n7,n8,k1,k2,k3,k4,k5,k6,k7,k8,na,ca,rfl,rfl,rfl⟩:=hp.nine;have HB1:Hid (Below w.heap.size w (w1.alloc (.cells #[.int .i64 u,.slice A1 n1 k1,.slice A2 n2 k2,.slice A3 n3 k3,.slice A4 n4 k4,.slice A5 n5 k5,.slice A6 n6 k6,.slice A7 n7 k7,.slice A8 n8 k8] 32))):=hd0 (hb1.alloc hb1.size _);clear hp hb1 SQ;simp only[Qy];go_wp2_with fail
  refine(HPR.out _ HB1.out).mono ?_;rintro e w2 ⟨rfl,hb2⟩;have HB2:Hid (Below w.heap.size w w2):=hd0 (HB1.out.trans (hb2.mono HB1.out.size));clear hb2 HB1;go_wp2_with fail
  go_ret
  exact⟨rfl,HB2.out⟩
 |ok f=>
  rw[hpl] at hp1;have HBG:=hd0 (abx (nt (VL (by omega) hpl) (by decide)));have SQ:=hd0 hp1;clear hpl hp1;go_enter Tryz.func4,Tryz.ntmps4
  go_wp2_with fail
  refine SQ.out.mono ?_;rintro e w1 ⟨hb1,fc,rfl,hf⟩;have kN:=hd0 hf;obtain⟨A1,c1,A2,c2,A3,c3,A4,c4,A5,c5,A6,c6,A7,c7,A8,c8,rfl,-⟩:=hf;obtain⟨W1,hW1,hbW,hkW⟩:=aQ w1 32 (X8 f A1 A2 A3 A4 A5 A6 A7 A8 c1 c2 c3 c4 c5 c6 c7 c8);have OV:Hid (Below w1.heap.size w1 W1):=hd0 hbW;have HB1:Hid (Below w.heap.size w W1):=hd0 (hb1.trans (hbW.mono hb1.size));have oL:=hd0 hkW;have HFW:=hd0 (aim.dt kN.out hbW);obtain⟨k0,k1,k2,k3,k4,k5,k6,k7,k8⟩:=nine hkW (akl _ _);have hz1:=hkW.lt;have HRT:=hd0 (Vz W1 f A1 A2 A3 A4 A5 A6 A7 A8 c1 c2 c3 c4 c5 c6 c7 c8 (by
   obtain⟨p,h1,h2⟩:=aim.fin (aim.dtl HFW.out);obtain⟨B1,d1,B2,d2,B3,d3,B4,d4,B5,d5,B6,d6,B7,d7,B8,d8⟩:=p;simp only[Fp.cs,Array.mk.injEq,alf,alh,true_and,and_true] at h1;obtain⟨⟨rfl,rfl⟩,⟨rfl,rfl⟩,⟨rfl,rfl⟩,⟨rfl,rfl⟩,⟨rfl,rfl⟩,⟨rfl,rfl⟩,⟨rfl,rfl⟩,⟨rfl,rfl⟩⟩:=h1;exact h2) HBG.out)
  clear hb1 hbW hkW SQ;go_wp2_with fail
  try clear hW1
  refine HRT.out.mono ?_;rintro e w2 ⟨be,rfl,hbe,hb2⟩;have nN:Hid (Below W1.heap.size W1 w2):=hd0 hb2;have HB2:Hid (Below w.heap.size w w2):=hd0 (HB1.out.trans (hb2.mono HB1.out.size));have hz2:=hb2.size;clear k0 k1 k2 k3 k4 k5 k6 k7 k8 HRT hb2;cases be
  ·clear hbe;go_wp2_with fail
   refine(HPR.out _ HB2.out).mono ?_;rintro e w3 ⟨rfl,hb3⟩;have HB3:Hid (Below w.heap.size w w3):=hd0 (HB2.out.trans (hb3.mono HB2.out.size));clear hb3;go_wp2_with fail
   go_ret
   exact⟨rfl,HB3.out⟩
  have HK:=hd0 (hbe rfl);have HU1:=hd0 (Yq.out w2 HB2.out f _ (aim.dt HFW.out nN.out) HK.out);obtain⟨k0,k1,k2,k3,k4,k5,k6,k7,k8⟩:=nine oL.out nN.out;have hSl:(kw f).length<=800000000:=nt HK.out.len (by decide);have HP2:=hd0 (fun v (hb:Below w.heap.size w v)=>X4.out v hb (kw f) hSl);rw[RG HK.out.right] at HP2;have Yy:=hd0 (fun v (hb:Below w.heap.size w v) fc hf=>Yq.out v hb f fc hf HK.out);have hpl:=HK.out.print;clear hbe Yq X4;generalize kw f=S at*
  go_wp2_with fail
  refine HU1.out.mono ?_;rintro e w3 ⟨rfl,hb3⟩;have ng:Hid (Below W1.heap.size W1 w3):=hd0 (nN.out.trans (hb3.mono hz2));have HB3:Hid (Below w.heap.size w w3):=hd0 (HB2.out.trans (hb3.mono HB2.out.size));have hz3:=ng.out.size;clear k0 k1 k2 k3 k4 k5 k6 k7 k8 HU1 hb3;go_wp2_with fail
  refine(HP2.out w3 HB3.out).mono ?_;rintro e w4 ⟨hb4,gc,rfl,hg⟩;have HG:=hd0 hg;obtain⟨B1,d1,B2,d2,B3,d3,B4,d4,B5,d5,B6,d6,B7,d7,B8,d8,rfl,-⟩:=hg;obtain⟨W4,hW4,PE,abo⟩:=aQ w4 32 (X8 f B1 B2 B3 B4 B5 B6 B7 B8 d1 d2 d3 d4 d5 d6 d7 d8);have wu:Hid (Below W1.heap.size W1 W4):=hd0 (ng.out.trans ((hb4.trans (PE.mono hb4.size)).mono hz3));have HB4:Hid (Below w.heap.size w W4):=hd0 (HB3.out.trans ((hb4.trans (PE.mono hb4.size)).mono HB3.out.size));have HG4:=hd0 (aim.dt HG.out PE);have Io:=hd0 abo;have IM:=wu.out.size;clear hb4 PE abo HP2 HG;go_wp2_with fail
  try clear hW4
  refine(HPR.out W4 HB4.out).mono ?_;rintro e w5 ⟨rfl,hb5⟩;have adG:Hid (Below W4.heap.size W4 w5):=hd0 hb5;have tH:Hid (Below W1.heap.size W1 w5):=hd0 (wu.out.trans (hb5.mono IM));have iD:Hid (Below w.heap.size w w5):=hd0 (HB4.out.trans (hb5.mono HB4.out.size));have hz5:=hb5.size;obtain⟨k0,k1,k2,k3,k4,k5,k6,k7,k8⟩:=nine oL.out tH.out;obtain⟨j0,j1,j2,j3,j4,j5,j6,j7,j8⟩:=nine Io.out hb5;have hsm:=Y4 w5 f f _ _ (aim.dtl (aim.dt HFW.out tH.out)) (aim.dtl (aim.dt HG4.out hb5)) hpl hpl;simp only[beq_self_eq_true] at hsm;have HSM:=hd0 hsm;clear hb5 hsm;go_wp2_with fail
  refine HSM.out.mono ?_;rintro e w6 ⟨rfl,hb6⟩;have aaA:Hid (Below W4.heap.size W4 w6):=hd0 (adG.out.trans (hb6.mono hz5));have gY:Hid (Below w.heap.size w w6):=hd0 (iD.out.trans (hb6.mono iD.out.size));have HU3:=hd0 (Yy.out w6 gY.out _ (aim.dt HG4.out aaA.out));clear k0 k1 k2 k3 k4 k5 k6 k7 k8 j0 j1 j2 j3 j4 j5 j6 j7 j8 HSM hb6 Yy;obtain⟨j0,j1,j2,j3,j4,j5,j6,j7,j8⟩:=nine Io.out aaA.out;go_wp2_with fail
  refine HU3.out.mono ?_;rintro e w7 ⟨rfl,hb7⟩;have nJ:Hid (Below w.heap.size w w7):=hd0 (gY.out.trans (hb7.mono gY.out.size));have heq:(S==S)=true:=by simp
  clear j0 j1 j2 j3 j4 j5 j6 j7 j8 HU3 hb7;go_wp2_with fail
  go_ret
  exact⟨rfl,nJ.out⟩
end
section
open Go.ChangeShapes Go.WideShapes Go.ChangeAt Go.RowKit
open Go.ChangeMaps (open_string shut_string)
set_option linter.unusedVariables false
theorem zN:ownKnob Tryz.prog.godebug=none:=by kernel_rfl
theorem wo:laidOutB Tryz.prog=true:=by kernel_rfl
theorem xy (os:Os)(started:os.Started)(H:Type)(enc:TypeId×Value->H):
  ReturnsInHanded {} Tryz.checked os 4 .any (fun w args=>(Rows.unparseSourcesSpec.pre enc Tryz.prog Tryz.f4 Rows.unparseSourcesRow.domain false w args/\laidMetH Tryz.prog Rows.unparseSourcesRow.laid w)/\sizedMet enc Tryz.prog Tryz.f4 (OpenSpec.ofChange Rows.unparseSourcesSpec) false w args)
   (Rows.unparseSourcesSpec.post enc Tryz.prog Tryz.f4 false true false false):=by
 refine returnsInHanded_of_change_and (C:=Tryz.checked) (X:=fun w _=>laidMetH Tryz.prog Rows.unparseSourcesRow.laid w) (fun _ _ _ hh h=>h.of_heap hh) zN started (by kernel_rfl) Tryz.func4
  (ChangeSpec.witness_shaped (enc:=enc) (C:=Tryz.checked) (os:=os) (X:=fun w _=>laidMetH Tryz.prog Rows.unparseSourcesRow.laid w) false (World.laidAll Tryz.prog os Rows.unparseSourcesRow.laid) #[.string ByteArray.empty] 8 (World.laidAll_os _ _ _)
   (World.shaped_of_ZipB (by kernel_rfl) (by kernel_rfl)) (by kernel_rfl) (by kernel_rfl) (by kernel_rfl)
   (by rw[MakeChecks.laidMetH_plain _ _ _ (by kernel_rfl)];exact laidMet_laidAll _ (by kernel_rfl) (by kernel_rfl))) ?_
 intro W base args ds gs before hval0 hW hcnd _ hL _;have hval:∀(j:Nat) t v,Tryz.f4.params[j]? =some t->args[j]? =some v->Value.okWide Tryz.prog W .any base t v:=hval0;have hW':=hW;obtain⟨p,q,hA0,hV,rfl,hfz,hnd⟩:=hW;have hA:DataW.TrodAll enc Tryz.prog W 0 (fun _=>true) true Tryz.f4.params.toList args.toList ds p:=hA0;rw[Tryz.params4] at hA hval;obtain⟨v0,vs0,d0,ds0,p0,q0,hargs,rfl,rfl,h0,r0⟩:=trodAll_cons hA;obtain⟨rfl,rfl,rfl⟩:=trodAll_nil r0;obtain rfl:args= #[v0]:=by cases args;simp_all
 obtain⟨rfl,rfl⟩:=trodVars_none hV;have k0:=h0;have lt0:∀x∈p0,x.block<W.heap.size:=by obtain⟨m,hm⟩:=k0;exact DataW.trod_lt m _ _ _ hm
 obtain⟨a0,rfl,rfl,rfl,w0⟩:=open_string Tryz.underlying9 (hval 0 9 v0 rfl rfl) h0;obtain⟨⟨l0⟩⟩:=a0;clear hA0 hval0;have hL':laidMetH Tryz.prog Rows.unparseSourcesRow.laid W:=hL;rw[MakeChecks.laidMetH_plain _ _ _ (by kernel_rfl)] at hL';obtain⟨jr,yQ⟩:=RH hL' (by simp[Rows.unparseSourcesRow]) (by simp[Rows.unparseSourcesRow]) (by simp[Rows.unparseSourcesRow]);refine(zH W l0 (Tm hL' (by simp[Rows.unparseSourcesRow]) (by simp[Rows.unparseSourcesRow]) (by simp[Rows.unparseSourcesRow]) (by simp[Rows.unparseSourcesRow])) (UX hL' (by simp[Rows.unparseSourcesRow])) jr yQ).mono fun e W' ⟨he,bel⟩=> ?_
 subst he;exact⟨_,rfl,_,_,_,[],_,[],hW',trodAll_mk1 (shut_bool Tryz.underlying4 _),(trodAll_cons_mk (Below.trod wo (by kernel_rfl) (of_decide_eq_true (by kernel_rfl)) k0 bel lt0) trodAll_mk0),rfl,bel.frame _,fun h=>by cases h⟩
end
section
open Go.ChangeShapes Go.WideShapes Go.ChangeAt Go.RowKit
open Go.ChangeMaps (open_string shut_string)
set_option linter.unusedVariables false
theorem ai {a b:Bool}(ha:a=true)(hb:b=true):(a && b)=true:=by rw[ha,hb];rfl
set_option maxHeartbeats 4000000
theorem Cj:Rows.unparseSourcesRow.wf (OpenSpec.ofChange Rows.unparseSourcesSpec)=true:=by kernel_rfl
theorem Ci:laidOutB Tryz.prog=true:=by kernel_rfl
theorem CQ:mapsRowed Tryz.prog=true:=by kernel_rfl
theorem CB:Tryz.f4.params.all (Tryz.prog.readableRec ·)=true:=by kernel_rfl
theorem Cf:namedTie Tryz.prog Rows.unparseSourcesRow.named Rows.unparseSourcesSpec.vars=true:=by kernel_rfl
theorem CG:(Rows.unparseSourcesRow.stops==[])=true:=by kernel_rfl
theorem CE:(Tryz.prog.stops==[])=true:=by kernel_rfl
theorem CO:(Rows.unparseSourcesRow.knobs==[])=true:=by kernel_rfl
theorem CJ:(Tryz.prog.stopKnobs==[])=true:=by kernel_rfl
theorem Bh:(Rows.unparseSourcesRow.inPlace==Tryz.prog.inPlace 4)=true:=by kernel_rfl
theorem AA:(Rows.unparseSourcesRow.unfollowed==Tryz.prog.unfollowed 4)=true:=by kernel_rfl
theorem zo:(Rows.unparseSourcesRow.recurses==Tryz.prog.recurses 4)=true:=by kernel_rfl
theorem zM:(Rows.unparseSourcesRow.named==Tryz.prog.varsNamed 4)=true:=by kernel_rfl
theorem AU:(Rows.unparseSourcesRow.maps==(Tryz.f4.params.toList++Rows.unparseSourcesSpec.plain.varTypes Tryz.prog).any (Tryz.prog.mapsRec ·))=true:=by kernel_rfl
theorem BC:(Rows.unparseSourcesRow.ifaces==(Tryz.f4.params.toList++Rows.unparseSourcesSpec.plain.varTypes Tryz.prog).any (Tryz.prog.ifacesRec ·))=true:=by kernel_rfl
theorem zA:(Rows.unparseSourcesRow.mapsOut==Tryz.prog.mapsAmong Tryz.f4.resultTypes.toList)=true:=by kernel_rfl
theorem Bf:(Rows.unparseSourcesRow.loops==(Tryz.f4.params.toList++Rows.unparseSourcesSpec.plain.varTypes Tryz.prog).any (Tryz.prog.loopsFrom ·))=true:=by kernel_rfl
theorem Bi:(Rows.unparseSourcesRow.wideKeys==(Tryz.f4.params.toList++Rows.unparseSourcesSpec.plain.varTypes Tryz.prog++Tryz.f4.resultTypes.toList).any (Tryz.prog.wideKeysFrom ·))=true:=by kernel_rfl
theorem Bq:Rows.unparseSourcesSpec.vars.all (Tryz.prog.varReadable ·)=true:=by kernel_rfl
theorem Ap:Tryz.f4.resultTypes.all (fun t=>Tryz.prog.readableRec t && decide (t<Tryz.prog.types.size))=true:=by kernel_rfl
theorem BD:(Rows.unparseSourcesRow.ifacesOut==Tryz.f4.resultTypes.toList.any (Tryz.prog.ifacesRec ·))=true:=by kernel_rfl
theorem Am:(Rows.unparseSourcesRow.loopsOut==Tryz.f4.resultTypes.toList.any (Tryz.prog.loopsFrom ·))=true:=by kernel_rfl
theorem zT:(Rows.unparseSourcesRow.plainKeys==Tryz.prog.plainKeys)=true:=by kernel_rfl
theorem zD:Rows.unparseSourcesRow.shortTexts.isNone=true:=by kernel_rfl
theorem zq:Tryz.prog.stopsHeard=true:=by kernel_rfl
theorem AY:Tryz.prog.mayEnter=true:=by kernel_rfl
theorem Au:(Rows.unparseSourcesRow.lifted==Tryz.prog.liftsFinal)=true:=by kernel_rfl
theorem yZ:(Tryz.prog.make==some Rows.unparseSourcesRow.make)=true:=by kernel_rfl
theorem zK:(Rows.unparseSourcesRow.pinned==Rows.unparseSourcesRow.pinnedBy)=true:=by kernel_rfl
theorem AX:(Rows.unparseSourcesRow.veiled==(Tryz.f4.params.toList++Rows.unparseSourcesSpec.plain.varTypes Tryz.prog++Tryz.f4.resultTypes.toList).any (Tryz.prog.veiledRec ·))=true:=by kernel_rfl
theorem AL:Rows.unparseSourcesRow.veiledFits Tryz.prog Tryz.f4.params.toList (Tryz.f4.params.toList++Rows.unparseSourcesSpec.plain.varTypes Tryz.prog++Tryz.f4.resultTypes.toList)=true:=by kernel_rfl
theorem xh:joinedFacts Tryz.prog 4 Tryz.f4 Rows.unparseSourcesSpec Rows.unparseSourcesRow=true:=ai (ai (ai (ai (ai (ai (ai (ai (ai (ai (ai (ai (ai (ai (ai (ai (ai (ai (ai (ai (ai (ai (ai (ai (ai (ai (ai (ai (ai (ai (ai Cj Ci) CQ) CB) Cf) CG) CE) CO) CJ) Bh) AA) zo) zM) AU) BC) zA) Bf) Bi) Bq) Ap) BD) Am) zT) zD) zq) AY) Au) yZ) (by kernel_rfl)) zK) AX) AL
theorem yY:Rows.UnparseSourcesSaid:=
 OpenClaim.holds_of_wide 4 Tryz.f4 rfl rfl rfl rfl rfl rfl rfl ⟨rfl,rfl,rfl,rfl,rfl⟩ rfl rfl rfl rfl rfl (by kernel_rfl) Tryz.func4 xh
  (of_decide_eq_true (by kernel_rfl)) (by unfold Func.isWrapper;first|(rw[if_pos (by decide+kernel)];kernel_rfl)|(rw[if_neg (by decide+kernel)];exact⟨rfl,rfl⟩))
  (fun os started H enc _=>xy os started H enc)
end
end Go.Proofs.YtkijckccfookeaaGreatDoor
