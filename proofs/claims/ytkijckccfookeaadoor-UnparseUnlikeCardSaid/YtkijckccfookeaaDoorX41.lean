/- Lemmas. -/
import Derived.Test.YtkijckccfookeaaDoorX40
import Derived.Test.YtkijckccfookeaaDoorPrF
set_option linter.unusedVariables false
set_option linter.unusedSimpArgs false
set_option maxRecDepth 100000
set_option maxHeartbeats 32000000
namespace Go.Proofs.YtkijckccfookeaaDoor
open Go.RowKit
section
attribute [-go_sem] Builtin.append_
attribute [-go_sem] storeVar
theorem eval_at {a:Act}{k:Nat}{v:Value}(h:a.tmps[k]? =some v):a.eval (.tmp k)=v:=by simp[Act.eval,h]
theorem sW (vs:List Value)(v:Value):∀(t:Array Value) (first k:Nat),k=first+vs.length->(afi t first vs).setIfInBounds k v=afi t first (vs++[v]):=by
 induction vs with
 |nil=>intro t first k h;subst h;rfl
 |cons u vs ih=>intro t first k h;exact ih _ _ _ (by rw[h,aV];omega)
theorem mZ {vs:List Value}{v:Value}{t:Array Value}{first:Nat}(k i:Nat)(hz:first+vs.length<=t.size)(hk:k=first+i)(hv:vs[i]? =some v):(afi t first vs)[k]? =some v:=by have:=(agG.1 hv).1;rw[AC _ _ _ _ hz,if_pos (by omega),show k - first=i by omega,hv]
theorem Ib {vs:List Value}{t:Array Value}{first:Nat}(k:Nat)(hz:first+vs.length<=t.size)(hk:k<first\/first+vs.length<=k):(afi t first vs)[k]? =t[k]? :=by rw[AC _ _ _ _ hz,if_neg (by omega)]
theorem ZP {vs:List Value}(h:vs.length=14):∃z0 z1 z2 z3 z4 z5 z6 z7 z8 z9 z10 z11 z12 z13,vs=[z0,z1,z2,z3,z4,z5,z6,z7,z8,z9,z10,z11,z12,z13]:=
 match vs,h with
 |[z0,z1,z2,z3,z4,z5,z6,z7,z8,z9,z10,z11,z12,z13],_=>⟨z0,z1,z2,z3,z4,z5,z6,z7,z8,z9,z10,z11,z12,z13,rfl⟩
theorem ZC {vs:List Value}(h:vs.length=19):∃z0 z1 z2 z3 z4 z5 z6 z7 z8 z9 z10 z11 z12 z13 TY Um Tz z17 TJ,vs=[z0,z1,z2,z3,z4,z5,z6,z7,z8,z9,z10,z11,z12,z13,TY,Um,Tz,z17,TJ]:=
 match vs,h with
 |[z0,z1,z2,z3,z4,z5,z6,z7,z8,z9,z10,z11,z12,z13,TY,Um,Tz,z17,TJ],_=>⟨z0,z1,z2,z3,z4,z5,z6,z7,z8,z9,z10,z11,z12,z13,TY,Um,Tz,z17,TJ,rfl⟩
theorem IR {e t size:Nat}(E:ElT e t size)(ty:TypeId){w:World}{base g B n c:Nat}{A:Option Addr}{cells:List Value}(hg:base<=g)(hk:Bk w g e #[])(hb:base<=w.heap.size)(hr:Rd w B A n size cells)(h1:∀u∈cells,u.oneCell'=true)(hn:n<=100000):
  ∃A' c' w',(Builtin.append_ #[t,t] ty #[.slice (some ⟨g,0,none⟩) 0 0,.slice A n c]).run Tryd.prog w= .ok (.slice A' n c') w'/\w'.ownsRow base e size (.slice A' n c') n cells/\Below w.heap.size w w':=by
 have hown:w.ownsRow base e size (.slice (some ⟨g,0,none⟩) 0 0) 0 []:=⟨by simp,.inr ⟨g,0,#[],rfl,hg,hk,ai _,by unfold maxLen;omega,by simp,by simp⟩⟩
 obtain⟨i,z,ht,hi,hz,hs,hzs,hby,hsz⟩:=E;rcases Nat.eq_zero_or_pos n with h0|h0
 ·subst h0;have hc:cells=[]:=List.eq_nil_of_length_eq_zero (by simpa using hr.1);subst hc;cases A with
  |none=>exact⟨some ⟨g,0,none⟩,0,w,qH w base t ty e i size ht hi _ 0 [] hown c,hown,agE _ _⟩
  |some ad=>have:=run_append_room_cells (P:=Tryd.prog) w t ty e i ht hi g 0 0 0 ad 0 c [] (by simp) (by simp) (by simp) (by omega) (by simp) (by simp);exact⟨some ⟨g,0,none⟩,0,w,this,hown,agE _ _⟩
 obtain⟨b,o,rfl,-,hcl⟩:=hr.2 h0;have hbytes:(0+n)*i.bytes<=140737488355328:=nt (Nat.mul_le_mul (show 0+n<=100000000000 by omega) hby) (by decide);obtain⟨v',w',hrun,ho,hgr⟩:=run_append_arg_grows (P:=Tryd.prog) w t ty e i z size i.bytes ht hi hz hs rfl hzs hsz ⟨g,0,none⟩ 0 0 [] (by simp) (by simp) ⟨b,o,none⟩ n c cells hr.1 (fun j u hu=>by rw[addr_add];exact hcl j u hu) (by omega) (by unfold maxLen;omega) hbytes;simp only[ahh,ahd] at ho;obtain⟨A',c',rfl⟩:=EK ho;refine⟨A',c',w',hrun,⟨ho.1,?_⟩,(agE _ _).grown hgr (ai _) (fun _ e=>by cases e)⟩;rcases ho.2 with h|⟨g',cap,cur,h2,h3,h4⟩
 ·exact .inl h
 exact .inr ⟨g',cap,cur,h2,by omega,h4⟩
def AxF (W1:World)(wb:Nat)(A5:Option Addr)(c5 n:Nat)(x0:List Value)(nn v3:Nat)(nm:B):Nat->Value->World->Prop
 |0,v,w=>∃g,v= .slice (some ⟨g,0,none⟩) 0 0/\W1.heap.size<=g/\Bk w g kM #[]
 |1,v,_=>v= .pointer (some ⟨wb,5,none⟩)
 |2,v,_=>v= .slice A5 n c5
 |3,v,w=>∃A c,v= .slice A n c/\w.ownsRow W1.heap.size kM 4 (.slice A n c) n x0
 |4,v,w=>∃g,v= .slice (some ⟨g,0,none⟩) 3 3/\Bk w g 9 #[.string ⟨#[97,120,97]⟩,.string ⟨#[113]⟩,.string ⟨#[]⟩]
 |6,v,_=>v= .int .i64 (v3:Int)
 |7,v,w=>∃g,v= .pointer (some ⟨g,v3,none⟩)/\Bk w g 9 #[.string ⟨#[97,120,97]⟩,.string ⟨#[113]⟩,.string ⟨#[]⟩]
 |8,v,_=>v= .string ⟨nm.toArray⟩
 |10,v,_=>v= .agg #[.string ⟨nm.toArray⟩,.int .i64 (nn:Int),.int .i64 50,.int .i64 60]
 |11,v,w=>∃g,v= .slice (some ⟨g,0,none⟩) 1 1/\Bk w g kM #[.string ⟨nm.toArray⟩,.int .i64 (nn:Int),.int .i64 50,.int .i64 60]
 |_,v,_=>v= .int .i64 (nn:Int)
theorem AxF.below {W1:World}{wb:Nat}{A5:Option Addr}{c5 n:Nat}{x0:List Value}{nn v3:Nat}{nm:B}(i:Nat)(v:Value)(w w':World)(hb:Below w.heap.size w w')(h:AxF W1 wb A5 c5 n x0 nn v3 nm i v w):AxF W1 wb A5 c5 n x0 nn v3 nm i v w':=by
 unfold AxF at h ⊢;split at h
 ·obtain⟨g,h1,h2,h3⟩:=h;exact⟨g,h1,h2,h3.bel hb⟩
 ·exact h
 ·exact h
 ·obtain⟨A,c,h1,h2⟩:=h;exact⟨A,c,h1,own_below h2 hb⟩
 ·obtain⟨g,h1,h2⟩:=h;exact⟨g,h1,h2.bel hb⟩
 ·exact h
 ·obtain⟨g,h1,h2⟩:=h;exact⟨g,h1,h2.bel hb⟩
 ·exact h
 ·exact h
 ·obtain⟨g,h1,h2⟩:=h;exact⟨g,h1,h2.bel hb⟩
 exact h
theorem QX {w W1:World}{rb:Nat}{f:Fnt}{p:Fp}{G:Nat}(HT:Hid (TC w W1 rb f p G))(HS:Hid (afz f))(nn v3:Nat)(nM:nn<100)(Gs:(nn:Int).tmod 3=(v3:Int))(wX:v3<3)(nm:B)(hnm:([.string ⟨#[97,120,97]⟩,.string ⟨#[113]⟩,.string ⟨#[]⟩]:List Value)[v3]'(by simpa using wX)= .string ⟨nm.toArray⟩)(hnl:nm.length<=17)
  (ops:Array Oper) (dr:Bool) (hc:Tryd.f7.body.bind (lI 52)=some (ops,dr)) (Q:Exit->Act->World->Prop) (a0:Act) (hz:a0.tmps.size=376) (h2:a0.tmps[2]? =some (.pointer (some ⟨w.heap.size,0,none⟩))) (h5:a0.tmps[5]? =some (.int .i64 (nn:Int)))
  (hQ:∀(vs:List Value) (w':World) (g:Fnt) (cs:List Value),vs.length=14->TD w w' rb cs g->afj g->Q .normal {tmps:=afi a0.tmps 344 vs,defers:=a0.defers} w'):Code.wp Tryd.prog (.region 52 ops dr) Q a0 W1:=by
 simp only[Tryd.f7,Option.bind_some,lI,reduceIte,Nat.reduceEqDiff,reduceCtorEq,ag3,ahl] at hc;obtain⟨rfl,rfl⟩:=hc;have wP:=HT.out.low.size;have hfew:=HS.out.aeP;unfold Few at hfew;obtain⟨x0,F0,R0,O0⟩:=HT.out.aeP.rdO One.afE (by decide) Tf.lt;have R1:=R0.below HT.out.low (ai _);have hv1:(0:Int)<=(v3:Int):=by omega
 have hv2:(v3:Int)<3:=by omega
 refine xJ 12 344 (AxF W1 w.heap.size p.A5 p.c5 f.aeP.length x0 nn v3 nm) (by kernel_rfl) (by kernel_rfl) (by decide) (by kernel_rfl) (by kernel_rfl) (by omega) AxF.below ?_ ?_
 ·intro i o hi ho a w2 hout hlow hd;have t2:=(hout 2 (.inl (by omega))).trans h2;have t5:=(hout 5 (.inl (by omega))).trans h5;have hsz:=hlow.size;have hcase:i=0\/i=1\/i=2\/i=3\/i=4\/i=5\/i=6\/i=7\/i=8\/i=9\/i=10\/i=11:=by omega
  have e2:=eval_at t2;have e5:=eval_at t5;clear hout h2 h5 hQ hnl;rcases hcase with rfl|rfl|rfl|rfl|rfl|rfl|rfl|rfl|rfl|rfl|rfl|rfl
  ·cases ho
   go_simp
   exact⟨_,rfl,(agE _ _).alloc (ai _) _,_,rfl,hsz,Bk.new _ _ _⟩
  ·cases ho
   go_simp
   exact⟨_,rfl,agE _ _,rfl⟩
  ·cases ho;obtain⟨_,h1,rfl⟩:=hd 1 (by kernel_rfl);have e1:=eval_at h1;have hS:=HT.out.box.at hlow 5 (v:= .slice p.A5 f.aeP.length p.c5) rfl
   go_simp
   exact⟨_,rfl,agE _ _,rfl⟩
  ·cases ho;obtain⟨_,h0,g,rfl,hg,hk⟩:=hd 0 (by kernel_rfl);obtain⟨_,h2,rfl⟩:=hd 2 (by kernel_rfl);have e0:=eval_at h0;have e3:=eval_at h2;obtain⟨A',c',w',hrun,ho,hb⟩:=IR (c:=p.c5) Hf 28 hg hk hsz (R1.below hlow wP) O0 hfew;unfold Oper.wp execOp;simp only[resolve,invoke,builtin,Sem.run_bind,Sem.run_pure,Result.andThen_ok,List.map_toArray,agO,ahk,e0,e3,hrun];exact⟨_,rfl,hb,_,_,rfl,ho⟩
  ·cases ho
   go_simp
   exact⟨_,rfl,(agE _ _).alloc (ai _) _,_,rfl,Bk.new _ _ _⟩
  ·cases ho
   go_simp
   exact⟨_,rfl,agE _ _,rfl⟩
  ·cases ho;obtain⟨_,h1,rfl⟩:=hd 5 (by kernel_rfl);have e1:=eval_at h1
   go_simp
   exact⟨_,rfl,agE _ _,rfl⟩
  ·cases ho;obtain⟨_,h1,g,rfl,hk⟩:=hd 4 (by kernel_rfl);obtain⟨_,h2,rfl⟩:=hd 6 (by kernel_rfl);have e1:=eval_at h1;have e3:=eval_at h2
   go_simp
   exact⟨_,rfl,agE _ _,_,rfl,hk⟩
  ·cases ho;obtain⟨_,h1,g,rfl,hk⟩:=hd 7 (by kernel_rfl);have e1:=eval_at h1;have hS:w2.cell? ⟨g,v3,none⟩=some (.string ⟨nm.toArray⟩):=(hk.cell v3).trans (by rw[<-hnm];simp[wX])
   go_simp
   exact⟨_,rfl,agE _ _,rfl⟩
  ·cases ho
   go_simp
   exact⟨_,rfl,agE _ _,rfl⟩
  ·cases ho;obtain⟨_,h1,rfl⟩:=hd 8 (by kernel_rfl);obtain⟨_,h2,rfl⟩:=hd 9 (by kernel_rfl);have e1:=eval_at h1;have e3:=eval_at h2
   go_simp
   exact⟨_,rfl,agE _ _,rfl⟩
  cases ho;obtain⟨_,h1,rfl⟩:=hd 10 (by kernel_rfl);have e1:=eval_at h1
  go_simp
  exact⟨_,rfl,(agE _ _).alloc (ai _) _,_,rfl,Bk.new _ _ _⟩
 intro vs w2 hl hlow hf;have hsz:=hlow.size;have hz2:344+vs.length<=a0.tmps.size:=by omega
 have q3:vs[3]? =some vs[3]:=agH (by omega);have q11:vs[11]? =some vs[11]:=agH (by omega);obtain⟨A,c,hv3,hown⟩:=hf 3 _ q3;obtain⟨g,abu,hk⟩:=hf 11 _ q11;rw[hv3] at q3;rw[abu] at q11;have hr:Rd w2 (g+1) (some ⟨g,0,none⟩) 1 4 [.string ⟨nm.toArray⟩,.int .i64 (nn:Int),.int .i64 50,.int .i64 60]:=⟨rfl,fun _=>⟨g,0,rfl,by omega,fun j u hu=>by rw[ahh];exact(hk.cell j).trans (by simpa using hu)⟩⟩
 refine Fh Hf rfl (.tmp 347) (.tmp 355) rfl w2 W1.heap.size f.aeP.length c A x0 (g+1) (some ⟨g,0,none⟩) 1 1 _ (eval_at (mZ 347 3 hz2 rfl q3)) (eval_at (mZ 355 11 hz2 rfl q11)) hown hr (by simp[Value.oneCell']) (by omega) hsz ?_;intro Aq cq W4 dS hg4 _;have hb4:Below W1.heap.size W1 W4:=oP hlow hown hg4;have h4:=HT.out.below hb4;have hfz:W4.frozen? ⟨w.heap.size,5,none⟩=_:=h4.box.frozen 5;have qP:W4.cell? ⟨w.heap.size,5,none⟩=some (.slice p.A5 f.aeP.length p.c5):=h4.box.cell 5;have htd:=h4.td.field 5 (.slice Aq (f.aeP.length+1) cq) (g':= {f with aeP:=f.aeP++[(⟨nm,(nn:Int),50,60⟩:afp)]}) (by
  have hs:=mM ae2.ok dS F0 h4.low (Tf.low h4.low) (y:=(⟨nm,(nn:Int),50,60⟩:afp)) ⟨rfl,by simp[I64];omega,by simp[I64],by simp[I64]⟩ rfl (fun b cur hk _=>⟨cur,_,hk,by decide⟩) (by decide);obtain⟨B1,e1,B2,e2,B3,e3,B4,e4,B5,e5,B6,e6,B7,e7,B8,e8,e,i0,n1,n2,n3,n4,n5,n6,n7,n8⟩:=h4.td.fnt;rw[e];exact⟨B1,e1,B2,e2,B3,e3,B4,e4,Aq,cq,B6,e6,B7,e7,B8,e8,by simp,i0,n1,n2,n3,n4,hs,n6,n7,n8⟩)
 have hax:∀a∈f.aeP++[(⟨nm,(nn:Int),50,60⟩:afp)],Big a.name.length:=fun a ha=>by
  rcases agJ.1 ha with h|h
  ·exact HS.out.big.afE a h
  simp at h;subst h;show Big nm.length;unfold Big;omega
 have hbg:afj {f with aeP:=f.aeP++[(⟨nm,(nn:Int),50,60⟩:afp)]} := {HS.out.big with aeP:=HS.out.aeP.snoc _,afE:=hax}
 have sv:=aO 28 (by kernel_rfl);have ea:(Act.put {tmps:=afi a0.tmps 344 vs,defers:=a0.defers} (some 356) (.slice Aq (f.aeP.length+1) cq))= {tmps:=afi a0.tmps 344 (vs++[.slice Aq (f.aeP.length+1) cq]),defers:=a0.defers} :=by simp only[Act.put];rw[sW _ _ _ _ _ (by rw[hl])]
 show wpList _ _ _ _ (Act.put _ (some 356) _) _;rw[ea];refine wpList_plain rfl fun K hK=> ?_
 have e2:=eval_at (a:= {tmps:=afi a0.tmps 344 (vs++[.slice Aq (f.aeP.length+1) cq]),defers:=a0.defers}) ((Ib 2 (by simp;omega) (.inl (by omega))).trans h2);unfold Oper.wp execOp;simp only[e2]
 go_simp
 refine hK _ _ ?_;rw[sW _ _ _ _ _ (by simp[hl])];clear hK e2;refine wpList_plain rfl fun K hK=> ?_
 have hz3:344+(vs++[Value.slice Aq (f.aeP.length+1) cq]++[Value.pointer (some ⟨w.heap.size,5,none⟩)]).length<=a0.tmps.size:=by simp;omega
 have e3:=eval_at (a:= {tmps:=afi a0.tmps 344 (vs++[.slice Aq (f.aeP.length+1) cq]++[.pointer (some ⟨w.heap.size,5,none⟩)]),defers:=a0.defers}) (mZ (v:= .pointer (some ⟨w.heap.size,5,none⟩)) 357 13 hz3 rfl (by simp[hl]));have e4:=eval_at (a:= {tmps:=afi a0.tmps 344 (vs++[.slice Aq (f.aeP.length+1) cq]++[.pointer (some ⟨w.heap.size,5,none⟩)]),defers:=a0.defers}) (mZ (v:= .slice Aq (f.aeP.length+1) cq) 356 12 hz3 rfl (by simp[hl]));unfold Oper.wp execOp;simp only[e3,e4]
 go_simp
 refine hK _ _ ?_;exact hQ _ _ _ _ (by simp[hl]) htd hbg
def FeF (W1:World)(wb:Nat)(A4:Option Addr)(c4 n:Nat)(x0:List Value)(nn v3 v4 v5:Nat)(nm:B):Nat->Value->World->Prop
 |0,v,w=>∃g,v= .slice (some ⟨g,0,none⟩) 0 0/\W1.heap.size<=g/\Bk w g vC #[]
 |1,v,_=>v= .pointer (some ⟨wb,4,none⟩)
 |2,v,_=>v= .slice A4 n c4
 |3,v,w=>∃A c,v= .slice A n c/\w.ownsRow W1.heap.size vC 2 (.slice A n c) n x0
 |4,v,w=>∃g,v= .slice (some ⟨g,0,none⟩) 5 5/\Bk w g 9 #[.string ⟨#[108,105,103,97]⟩,.string ⟨#[120]⟩,.string ⟨#[116,111,111,108,111,110,103,110,97,109,101]⟩,.string ⟨#[97,49]⟩,.string ⟨#[]⟩]
 |6,v,_=>v= .int .i64 (v3:Int)
 |7,v,w=>∃g,v= .pointer (some ⟨g,v3,none⟩)/\Bk w g 9 #[.string ⟨#[108,105,103,97]⟩,.string ⟨#[120]⟩,.string ⟨#[116,111,111,108,111,110,103,110,97,109,101]⟩,.string ⟨#[97,49]⟩,.string ⟨#[]⟩]
 |8,v,_=>v= .string ⟨nm.toArray⟩
 |10,v,_=>v= .int .i64 (v4:Int)
 |11,v,_=>v= .int .i64 ((v4:Int) - 1)
 |13,v,_=>v= .int .i64 (v5:Int)
 |14,v,w=>∃g,v= .slice (some ⟨g,0,none⟩) 2 2/\Bk w g aF #[.int .i64 ((v4:Int) - 1),.int .i64 (v5:Int)]
 |15,v,w=>∃g,v= .agg #[.string ⟨nm.toArray⟩,.slice (some ⟨g,0,none⟩) 2 2]/\Bk w g aF #[.int .i64 ((v4:Int) - 1),.int .i64 (v5:Int)]
 |16,v,w=>∃x g,v= .slice (some ⟨x,0,none⟩) 1 1/\Bk w x vC #[.string ⟨nm.toArray⟩,.slice (some ⟨g,0,none⟩) 2 2]/\Bk w g aF #[.int .i64 ((v4:Int) - 1),.int .i64 (v5:Int)]
 |_,v,_=>v= .int .i64 (nn:Int)
theorem FeF.below {W1:World}{wb:Nat}{A4:Option Addr}{c4 n:Nat}{x0:List Value}{nn v3 v4 v5:Nat}{nm:B}(i:Nat)(v:Value)(w w':World)(hb:Below w.heap.size w w')(h:FeF W1 wb A4 c4 n x0 nn v3 v4 v5 nm i v w):FeF W1 wb A4 c4 n x0 nn v3 v4 v5 nm i v w':=by
 unfold FeF at h ⊢;split at h
 ·obtain⟨g,h1,h2,h3⟩:=h;exact⟨g,h1,h2,h3.bel hb⟩
 ·exact h
 ·exact h
 ·obtain⟨A,c,h1,h2⟩:=h;exact⟨A,c,h1,own_below h2 hb⟩
 ·obtain⟨g,h1,h2⟩:=h;exact⟨g,h1,h2.bel hb⟩
 ·exact h
 ·obtain⟨g,h1,h2⟩:=h;exact⟨g,h1,h2.bel hb⟩
 ·exact h
 ·exact h
 ·exact h
 ·exact h
 ·obtain⟨g,h1,h2⟩:=h;exact⟨g,h1,h2.bel hb⟩
 ·obtain⟨g,h1,h2⟩:=h;exact⟨g,h1,h2.bel hb⟩
 ·obtain⟨x,g,h1,h2,h3⟩:=h;exact⟨x,g,h1,h2.bel hb,h3.bel hb⟩
 exact h
theorem PM {w W1:World}{rb:Nat}{f:Fnt}{p:Fp}{G:Nat}(HT:Hid (TC w W1 rb f p G))(HS:Hid (afz f))(nn v3 v4:Nat)(nM:nn<100)(Gs:(nn:Int).tmod 5=(v3:Int))(wX:v3<5)(Pg:(nn:Int).tmod 4=(v4:Int))(XD:v4<4)(nm:B)(hnm:([.string ⟨#[108,105,103,97]⟩,.string ⟨#[120]⟩,.string ⟨#[116,111,111,108,111,110,103,110,97,109,101]⟩,.string ⟨#[97,49]⟩,.string ⟨#[]⟩]:List Value)[v3]'(by simpa using wX)= .string ⟨nm.toArray⟩)(hnl:nm.length<=17)
  (ops:Array Oper) (dr:Bool) (hc:Tryd.f7.body.bind (lI 50)=some (ops,dr)) (Q:Exit->Act->World->Prop) (a0:Act) (hz:a0.tmps.size=376) (h2:a0.tmps[2]? =some (.pointer (some ⟨w.heap.size,0,none⟩))) (h5:a0.tmps[5]? =some (.int .i64 (nn:Int)))
  (hQ:∀(vs:List Value) (w':World) (g:Fnt) (cs:List Value),vs.length=19->TD w w' rb cs g->afj g->Q .normal {tmps:=afi a0.tmps 323 vs,defers:=a0.defers} w'):Code.wp Tryd.prog (.region 50 ops dr) Q a0 W1:=by
 simp only[Tryd.f7,Option.bind_some,lI,reduceIte,Nat.reduceEqDiff,reduceCtorEq,ag3,ahl] at hc;obtain⟨rfl,rfl⟩:=hc;have wP:=HT.out.low.size;have hfew:=HS.out.aeX;unfold Few at hfew;obtain⟨x0,F0,R0,O0⟩:=HT.out.aeX.rdO One.afY (by decide) Tf.lt;have R1:=R0.below HT.out.low (ai _);have hv1:(0:Int)<=(v3:Int):=by omega
 have hv2:(v3:Int)<5:=by omega
 have hwr:IntKind.i64.wrap ((v4:Int) - 1)=(v4:Int) - 1:=wrap_in _ (by omega) (by omega);refine xJ 17 323 (FeF W1 w.heap.size p.A4 p.c4 f.features.length x0 nn v3 v4 v3 nm) (by kernel_rfl) (by kernel_rfl) (by decide) (by kernel_rfl) (by kernel_rfl) (by omega) FeF.below ?_ ?_
 ·intro i o hi ho a w2 hout hlow hd;have t2:=(hout 2 (.inl (by omega))).trans h2;have t5:=(hout 5 (.inl (by omega))).trans h5;have hsz:=hlow.size;have hcase:i=0\/i=1\/i=2\/i=3\/i=4\/i=5\/i=6\/i=7\/i=8\/i=9\/i=10\/i=11\/i=12\/i=13\/i=14\/i=15\/i=16:=by omega
  have e2:=eval_at t2;have e5:=eval_at t5;clear hout h2 h5 hQ hnl;rcases hcase with rfl|rfl|rfl|rfl|rfl|rfl|rfl|rfl|rfl|rfl|rfl|rfl|rfl|rfl|rfl|rfl|rfl
  ·cases ho
   go_simp
   exact⟨_,rfl,(agE _ _).alloc (ai _) _,_,rfl,hsz,Bk.new _ _ _⟩
  ·cases ho
   go_simp
   exact⟨_,rfl,agE _ _,rfl⟩
  ·cases ho;obtain⟨_,h1,rfl⟩:=hd 1 (by kernel_rfl);have e1:=eval_at h1;have hS:=HT.out.box.at hlow 4 (v:= .slice p.A4 f.features.length p.c4) rfl
   go_simp
   exact⟨_,rfl,agE _ _,rfl⟩
  ·cases ho;obtain⟨_,h0,g,rfl,hg,hk⟩:=hd 0 (by kernel_rfl);obtain⟨_,h2,rfl⟩:=hd 2 (by kernel_rfl);have e0:=eval_at h0;have e3:=eval_at h2;obtain⟨A',c',w',hrun,ho,hb⟩:=IR (c:=p.c4) I8 27 hg hk hsz (R1.below hlow wP) O0 hfew;unfold Oper.wp execOp;simp only[resolve,invoke,builtin,Sem.run_bind,Sem.run_pure,Result.andThen_ok,List.map_toArray,agO,ahk,e0,e3,hrun];exact⟨_,rfl,hb,_,_,rfl,ho⟩
  ·cases ho
   go_simp
   exact⟨_,rfl,(agE _ _).alloc (ai _) _,_,rfl,Bk.new _ _ _⟩
  ·cases ho
   go_simp
   exact⟨_,rfl,agE _ _,rfl⟩
  ·cases ho;obtain⟨_,h1,rfl⟩:=hd 5 (by kernel_rfl);have e1:=eval_at h1
   go_simp
   exact⟨_,rfl,agE _ _,rfl⟩
  ·cases ho;obtain⟨_,h1,g,rfl,hk⟩:=hd 4 (by kernel_rfl);obtain⟨_,h2,rfl⟩:=hd 6 (by kernel_rfl);have e1:=eval_at h1;have e3:=eval_at h2
   go_simp
   exact⟨_,rfl,agE _ _,_,rfl,hk⟩
  ·cases ho;obtain⟨_,h1,g,rfl,hk⟩:=hd 7 (by kernel_rfl);have e1:=eval_at h1;have hS:w2.cell? ⟨g,v3,none⟩=some (.string ⟨nm.toArray⟩):=(hk.cell v3).trans (by rw[<-hnm];simp[wX])
   go_simp
   exact⟨_,rfl,agE _ _,rfl⟩
  ·cases ho
   go_simp
   exact⟨_,rfl,agE _ _,rfl⟩
  ·cases ho;obtain⟨_,h1,rfl⟩:=hd 9 (by kernel_rfl);have e1:=eval_at h1
   go_simp
   exact⟨_,rfl,agE _ _,rfl⟩
  ·cases ho;obtain⟨_,h1,rfl⟩:=hd 10 (by kernel_rfl);have e1:=eval_at h1
   go_simp
   exact⟨_,rfl,agE _ _,rfl⟩
  ·cases ho
   go_simp
   exact⟨_,rfl,agE _ _,rfl⟩
  ·cases ho;obtain⟨_,h1,rfl⟩:=hd 12 (by kernel_rfl);have e1:=eval_at h1
   go_simp
   exact⟨_,rfl,agE _ _,rfl⟩
  ·cases ho;obtain⟨_,h1,rfl⟩:=hd 11 (by kernel_rfl);obtain⟨_,h2,rfl⟩:=hd 13 (by kernel_rfl);have e1:=eval_at h1;have e3:=eval_at h2
   go_simp
   exact⟨_,rfl,(agE _ _).alloc (ai _) _,_,rfl,Bk.new _ _ _⟩
  ·cases ho;obtain⟨_,h1,rfl⟩:=hd 8 (by kernel_rfl);obtain⟨_,h2,g,rfl,hk⟩:=hd 14 (by kernel_rfl);have e1:=eval_at h1;have e3:=eval_at h2
   go_simp
   exact⟨_,rfl,agE _ _,g,rfl,hk⟩
  cases ho;obtain⟨_,h1,g,rfl,hk⟩:=hd 15 (by kernel_rfl);have e1:=eval_at h1
  go_simp
  exact⟨_,rfl,(agE _ _).alloc (ai _) _,_,g,rfl,Bk.new _ _ _,hk.alloc _⟩
 intro vs w2 hl hlow hf;have hsz:=hlow.size;have hz2:323+vs.length<=a0.tmps.size:=by omega
 have q3:vs[3]? =some vs[3]:=agH (by omega);have q16:vs[16]? =some vs[16]:=agH (by omega);obtain⟨A,c,hv3,hown⟩:=hf 3 _ q3;obtain⟨x,g,aci,hk,hkI⟩:=hf 16 _ q16;rw[hv3] at q3;rw[aci] at q16;have hr:Rd w2 (x+1) (some ⟨x,0,none⟩) 1 2 [.string ⟨nm.toArray⟩,.slice (some ⟨g,0,none⟩) 2 2]:=⟨rfl,fun _=>⟨x,0,rfl,by omega,fun j u hu=>by rw[ahh];exact(hk.cell j).trans (by simpa using hu)⟩⟩
 refine Fh I8 rfl (.tmp 326) (.tmp 339) rfl w2 W1.heap.size f.features.length c A x0 (x+1) (some ⟨x,0,none⟩) 1 1 _ (eval_at (mZ 326 3 hz2 rfl q3)) (eval_at (mZ 339 16 hz2 rfl q16)) hown hr (by simp[Value.oneCell']) (by omega) hsz ?_;intro Aq cq W4 dS hg4 _;have hb4:Below W1.heap.size W1 W4:=oP hlow hown hg4;have h4:=HT.out.below hb4;have Xx:=(Sp.push hown (ai _) hg4:Sp W1.heap.size _ w2 W4).bk hkI (by decide);have hfz:W4.frozen? ⟨w.heap.size,4,none⟩=_:=h4.box.frozen 4;have qP:W4.cell? ⟨w.heap.size,4,none⟩=some (.slice p.A4 f.features.length p.c4):=h4.box.cell 4;have htd:=h4.td.field 4 (.slice Aq (f.features.length+1) cq) (g':= {f with features:=f.features++[(⟨nm,[(v4:Int) - 1,(v3:Int)]⟩:afd)]}) (by
  have hs:=mM aeW.ok dS F0 h4.low (Tf.low h4.low) (y:=(⟨nm,[(v4:Int) - 1,(v3:Int)]⟩:afd)) ⟨_,2,rfl,uf (S:=Tf W4) Xx [(v4:Int) - 1,(v3:Int)] rfl (fun x hx=>by simp at hx;rcases hx with rfl|rfl<;>(unfold I64;omega)) ⟨_,_,Xx,by decide⟩⟩ rfl (fun b cur hk _=>⟨cur,_,hk,by decide⟩) (by decide);obtain⟨B1,e1,B2,e2,B3,e3,B4,e4,B5,e5,B6,e6,B7,e7,B8,e8,e,i0,n1,n2,n3,n4,n5,n6,n7,n8⟩:=h4.td.fnt;rw[e];exact⟨B1,e1,B2,e2,B3,e3,Aq,cq,B5,e5,B6,e6,B7,e7,B8,e8,by simp,i0,n1,n2,n3,hs,n5,n6,n7,n8⟩)
 have hax:∀a∈f.features++[(⟨nm,[(v4:Int) - 1,(v3:Int)]⟩:afd)],af7 a:=fun a ha=>by
  rcases agJ.1 ha with h|h
  ·exact HS.out.big.afY a h
  simp at h;subst h;exact⟨by show Big nm.length;unfold Big;omega,by show Big 2;unfold Big;omega⟩
 have hbg:afj {f with features:=f.features++[(⟨nm,[(v4:Int) - 1,(v3:Int)]⟩:afd)]} := {HS.out.big with aeX:=HS.out.aeX.snoc _,afY:=hax}
 have sv:=aO 27 (by kernel_rfl);have ea:(Act.put {tmps:=afi a0.tmps 323 vs,defers:=a0.defers} (some 340) (.slice Aq (f.features.length+1) cq))= {tmps:=afi a0.tmps 323 (vs++[.slice Aq (f.features.length+1) cq]),defers:=a0.defers} :=by simp only[Act.put];rw[sW _ _ _ _ _ (by rw[hl])]
 show wpList _ _ _ _ (Act.put _ (some 340) _) _;rw[ea];refine wpList_plain rfl fun K hK=> ?_
 have e2:=eval_at (a:= {tmps:=afi a0.tmps 323 (vs++[.slice Aq (f.features.length+1) cq]),defers:=a0.defers}) ((Ib 2 (by simp;omega) (.inl (by omega))).trans h2);unfold Oper.wp execOp;simp only[e2]
 go_simp
 refine hK _ _ ?_;rw[sW _ _ _ _ _ (by simp[hl])];clear hK e2;refine wpList_plain rfl fun K hK=> ?_
 have hz3:323+(vs++[Value.slice Aq (f.features.length+1) cq]++[Value.pointer (some ⟨w.heap.size,4,none⟩)]).length<=a0.tmps.size:=by simp;omega
 have e3:=eval_at (a:= {tmps:=afi a0.tmps 323 (vs++[.slice Aq (f.features.length+1) cq]++[.pointer (some ⟨w.heap.size,4,none⟩)]),defers:=a0.defers}) (mZ (v:= .pointer (some ⟨w.heap.size,4,none⟩)) 341 18 hz3 rfl (by simp[hl]));have e4:=eval_at (a:= {tmps:=afi a0.tmps 323 (vs++[.slice Aq (f.features.length+1) cq]++[.pointer (some ⟨w.heap.size,4,none⟩)]),defers:=a0.defers}) (mZ (v:= .slice Aq (f.features.length+1) cq) 340 17 hz3 rfl (by simp[hl]));unfold Oper.wp execOp;simp only[e3,e4]
 go_simp
 refine hK _ _ ?_;exact hQ _ _ _ _ (by simp[hl]) htd hbg
end
section
attribute [-go_sem] Builtin.append_
attribute [-go_sem] storeVar
theorem PI (w:World)(f:Fnt)(A1 A2 A3 A4 A5 A6 A7 A8:Option Addr)(c1 c2 c3 c4 c5 c6 c7 c8:Nat)(i0:I64 f.unit)(s1:Sl aeU 9 w (Tf w) A1 f.aeN)(s2:Sl afb 2 w (Tf w) A2 f.chars)(s3:Sl aeV 3 w (Tf w) A3 f.aeO)(s4:Sl aeW 2 w (Tf w) A4 f.features)(s5:Sl ae2 4 w (Tf w) A5 f.aeP)(s6:Sl aeY 1 w (Tf w) A6 f.regions)(s7:Sl ae1 1 w (Tf w) A7 f.funcs)(s8:Sl aeQ 1 w (Tf w) A8 f.cvt)(hS:afz f)(h0:0<f.aeN.length)(q0 q1 q2:Int)(hq:(q0.tmod 16+16).tmod 16=12):Calls Tryd.prog 7 #[.agg #[.int .i64 f.unit,.slice A1 f.aeN.length c1,.slice A2 f.chars.length c2,.slice A3 f.aeO.length c3,.slice A4 f.features.length c4,.slice A5 f.aeP.length c5,.slice A6 f.regions.length c6,.slice A7 f.funcs.length c7,.slice A8 f.cvt.length c8],.agg #[.int .i64 q0,.int .i64 q1,.int .i64 q2]] w (jF w):=by
 obtain⟨Wf,Wq,Wr,Wg,Wl,W1,G,cg,cl,Al,hWf,qh,jW,hrun1,hrun2,qA,pU,pO,pW,fz3,pV,j2,j1,j0,hW1,HT⟩:=iQ w f A1 A2 A3 A4 A5 A6 A7 A8 c1 c2 c3 c4 c5 c6 c7 c8 i0 s1 s2 s3 s4 s5 s6 s7 s8 hS h0 q0 q1 q2;have b1:=hS.aeN;have b2:=hS.aeO;unfold Few at b1 b2;have HS:=hd0 hS;have vg:=aO 24 (by kernel_rfl);have vl:=aO 26 (by kernel_rfl);obtain⟨r2,ha2,hr2,hr2'⟩:=aU q2 100 (by omega);obtain⟨nn,hn2,nM⟩:=aH (r2+(100:Nat)) 100 (by omega) (by omega);obtain⟨r1,ha1,hr1,hr1'⟩:=aU q1 f.aeN.length h0;obtain⟨i,hi1,hin⟩:=aH (r1+f.aeN.length) f.aeN.length h0 (by omega);have hK:0<f.aeO.length->∃(r:Int) (k:Nat),q1.tmod (f.aeO.length:Int)=r/\ -(f.aeO.length:Int)<r/\r<f.aeO.length/\(r+f.aeO.length).tmod (f.aeO.length:Int)=(k:Int)/\k<f.aeO.length:=fun hp=>by
  obtain⟨r,ha,hb,hc⟩:=aU q1 f.aeO.length hp;obtain⟨k,hd,he⟩:=aH (r+f.aeO.length) f.aeO.length hp (by omega);exact⟨r,k,ha,hb,hc,hd,he⟩
 have HK:=hd0 hK;have bn:decide ((0:Int)<(f.aeN.length:Int))=true:=decide_eq_true (by omega);have ja:((100:Nat):Int)=100:=rfl;rw[ja] at ha2 hn2;clear hS hK ja i0 s1 s2 s3 s4 s5 s6 s7 s8;obtain⟨mm,hmm⟩:∃m:Int,(q0.tmod 16+16).tmod 16=m:=⟨_,rfl⟩
 rw[hmm] at hq;obtain⟨r0,hr0⟩:∃r:Int,q0.tmod 16=r/\ -16<r/\r<16:=aU q0 16 (by omega);obtain⟨ha0,hr1',vk⟩:=hr0;rw[ha0] at hmm;go_enter Tryd.func7,Tryd.ntmps7
 go_upto_if 39 with fail
 try clear hWf
 try clear qh
 try clear jW
 clear qA pU hrun1 hrun2 j2 ha2 hi1 ha1 bn;go_cut [9] from 40 to 50 (fun v wx=>∃k:Nat,v= .int .i64 k/\(0<f.aeO.length->k<f.aeO.length)/\Wl=wx)
 case first=>
  by_cases hp:0<f.aeO.length
  ·obtain⟨r,k,e1,e2,e3,e4,e5⟩:=HK.out hp;have bp:decide ((0:Int)<(f.aeO.length:Int))=true:=decide_eq_true (by omega);go_wp2_with fail
   go_meet
   exact⟨k,rfl,fun _=>e5,rfl⟩
  have bp:decide ((0:Int)<(f.aeO.length:Int))=false:=decide_eq_false (by omega);go_wp2_with fail
  go_meet
  exact⟨0,rfl,fun h=>absurd h hp,rfl⟩
 case rest=>
 obtain⟨k,rfl,hkl,rfl⟩:=hcut;clear HK j1
 go_upto_block 0 with fail
 try rw[hW1]
 clear vg vl hW1 pO fz3 pW pV j0 ha0 hmm;go_cut [] from 60 to 374 (fun wx=>∃(g:Fnt) (cs:List Value),TD w wx Wq.heap.size cs g/\afj g)
 case first=>
  have wP:=HT.out.low.size;have lC:Hid (Below w.heap.size w W1):=hd0 HT.out.low;obtain⟨x,D3,d3,D4,d4,D5,d5,D6,d6,D7,d7,D8,d8,hx,l4,l5,l6,l7,l8,hgr,t4,t5,t6,t7,t8⟩:=HT.out.aeT hin;have HX:=hd0 (HS.out.aeT x (agM hx.out));have vY:G<W1.heap.size:=by obtain⟨gc,iI,h1,-⟩:=HT.out.gB;exact h1.lt
  have T4:=hd0 t4;have T5:=hd0 t5;have T6:=hd0 t6;have T7:=hd0 t7;have T8:=hd0 t8;have bn:decide ((0:Int)<(f.aeN.length:Int))=true:=decide_eq_true (by omega);clear hgr t4 t5 t6 t7 t8;subst hq;obtain⟨v3,Gs,wX⟩:=aH (nn:Int) 5 (by omega) (by omega);rw[show((5:Nat):Int)=5 from rfl] at Gs;obtain⟨v4,Pg,XD⟩:=aH (nn:Int) 4 (by omega) (by omega);rw[show((4:Nat):Int)=4 from rfl] at Pg;have hnm:∃nm:B,([.string ⟨#[108,105,103,97]⟩,.string ⟨#[120]⟩,.string ⟨#[116,111,111,108,111,110,103,110,97,109,101]⟩,.string ⟨#[97,49]⟩,.string ⟨#[]⟩]:List Value)[v3]'(by simpa using wX)= .string ⟨nm.toArray⟩/\nm.length<=17:=by
   have:v3=0\/v3=1\/v3=2\/v3=3\/v3=4:=by omega
   rcases this with rfl|rfl|rfl|rfl|rfl<;>exact⟨_,rfl,by decide⟩
  obtain⟨nm,hnm,hnl⟩:=hnm;clear l4 l5 l6 l7 l8;go_wp2_with fail
  refine PM HT HS nn v3 v4 nM Gs wX Pg XD nm hnm hnl _ _ (by kernel_rfl) _ _ rfl rfl rfl ?_;intro vs wx g cs hl hT hB;have gu:=hd0 hT;have iD:=hd0 hB;clear hT hB;obtain⟨z0,z1,z2,z3,z4,z5,z6,z7,z8,z9,z10,z11,z12,z13,TY,Um,Tz,z17,TJ,rfl⟩:=ZC hl;simp only[afi,List.setIfInBounds_toArray,List.set_cons_zero,List.set_cons_succ];clear hl;go_wp2_with fail
  go_meet
  exact⟨_,_,gu.out,iD.out⟩
 case rest=>
 obtain⟨g,cs,hT,hB⟩:=hcut;obtain⟨hst,hbk,hsz,hpo⟩:=hT.fin hB;have gV:=hd0 hbk;have qi:=hd0 hsz;have rH:=hd0 hpo;have fM:=hd0 hT.box;obtain⟨B1,e1,B2,e2,B3,e3,B4,e4,B5,e5,B6,e6,B7,e7,B8,e8,rfl,-⟩:=hT.fnt;obtain⟨k0,k1,k2,k3,k4,k5,k6,k7,k8⟩:=nine fM.out (agE _ _);clear hbk hsz hpo hT hB HT HS;go_wp2_with fail
 exact bodyPost_ret (fC gV.out qi.out) rfl rH.out
end
section
attribute [-go_sem] Builtin.append_
attribute [-go_sem] storeVar
theorem PZ (w:World)(f:Fnt)(A1 A2 A3 A4 A5 A6 A7 A8:Option Addr)(c1 c2 c3 c4 c5 c6 c7 c8:Nat)(i0:I64 f.unit)(s1:Sl aeU 9 w (Tf w) A1 f.aeN)(s2:Sl afb 2 w (Tf w) A2 f.chars)(s3:Sl aeV 3 w (Tf w) A3 f.aeO)(s4:Sl aeW 2 w (Tf w) A4 f.features)(s5:Sl ae2 4 w (Tf w) A5 f.aeP)(s6:Sl aeY 1 w (Tf w) A6 f.regions)(s7:Sl ae1 1 w (Tf w) A7 f.funcs)(s8:Sl aeQ 1 w (Tf w) A8 f.cvt)(hS:afz f)(h0:0<f.aeN.length)(q0 q1 q2:Int)(hq:(q0.tmod 16+16).tmod 16=13):Calls Tryd.prog 7 #[.agg #[.int .i64 f.unit,.slice A1 f.aeN.length c1,.slice A2 f.chars.length c2,.slice A3 f.aeO.length c3,.slice A4 f.features.length c4,.slice A5 f.aeP.length c5,.slice A6 f.regions.length c6,.slice A7 f.funcs.length c7,.slice A8 f.cvt.length c8],.agg #[.int .i64 q0,.int .i64 q1,.int .i64 q2]] w (jF w):=by
 obtain⟨Wf,Wq,Wr,Wg,Wl,W1,G,cg,cl,Al,hWf,qh,jW,hrun1,hrun2,qA,pU,pO,pW,fz3,pV,j2,j1,j0,hW1,HT⟩:=iQ w f A1 A2 A3 A4 A5 A6 A7 A8 c1 c2 c3 c4 c5 c6 c7 c8 i0 s1 s2 s3 s4 s5 s6 s7 s8 hS h0 q0 q1 q2;have b1:=hS.aeN;have b2:=hS.aeO;unfold Few at b1 b2;have HS:=hd0 hS;have vg:=aO 24 (by kernel_rfl);have vl:=aO 26 (by kernel_rfl);obtain⟨r2,ha2,hr2,hr2'⟩:=aU q2 100 (by omega);obtain⟨nn,hn2,nM⟩:=aH (r2+(100:Nat)) 100 (by omega) (by omega);obtain⟨r1,ha1,hr1,hr1'⟩:=aU q1 f.aeN.length h0;obtain⟨i,hi1,hin⟩:=aH (r1+f.aeN.length) f.aeN.length h0 (by omega);have hK:0<f.aeO.length->∃(r:Int) (k:Nat),q1.tmod (f.aeO.length:Int)=r/\ -(f.aeO.length:Int)<r/\r<f.aeO.length/\(r+f.aeO.length).tmod (f.aeO.length:Int)=(k:Int)/\k<f.aeO.length:=fun hp=>by
  obtain⟨r,ha,hb,hc⟩:=aU q1 f.aeO.length hp;obtain⟨k,hd,he⟩:=aH (r+f.aeO.length) f.aeO.length hp (by omega);exact⟨r,k,ha,hb,hc,hd,he⟩
 have HK:=hd0 hK;have bn:decide ((0:Int)<(f.aeN.length:Int))=true:=decide_eq_true (by omega);have ja:((100:Nat):Int)=100:=rfl;rw[ja] at ha2 hn2;clear hS hK ja i0 s1 s2 s3 s4 s5 s6 s7 s8;obtain⟨mm,hmm⟩:∃m:Int,(q0.tmod 16+16).tmod 16=m:=⟨_,rfl⟩
 rw[hmm] at hq;obtain⟨r0,hr0⟩:∃r:Int,q0.tmod 16=r/\ -16<r/\r<16:=aU q0 16 (by omega);obtain⟨ha0,hr1',vk⟩:=hr0;rw[ha0] at hmm;go_enter Tryd.func7,Tryd.ntmps7
 go_upto_if 39 with fail
 try clear hWf
 try clear qh
 try clear jW
 clear qA pU hrun1 hrun2 j2 ha2 hi1 ha1 bn;go_cut [9] from 40 to 50 (fun v wx=>∃k:Nat,v= .int .i64 k/\(0<f.aeO.length->k<f.aeO.length)/\Wl=wx)
 case first=>
  by_cases hp:0<f.aeO.length
  ·obtain⟨r,k,e1,e2,e3,e4,e5⟩:=HK.out hp;have bp:decide ((0:Int)<(f.aeO.length:Int))=true:=decide_eq_true (by omega);go_wp2_with fail
   go_meet
   exact⟨k,rfl,fun _=>e5,rfl⟩
  have bp:decide ((0:Int)<(f.aeO.length:Int))=false:=decide_eq_false (by omega);go_wp2_with fail
  go_meet
  exact⟨0,rfl,fun h=>absurd h hp,rfl⟩
 case rest=>
 obtain⟨k,rfl,hkl,rfl⟩:=hcut;clear HK j1
 go_upto_block 0 with fail
 try rw[hW1]
 clear vg vl hW1 pO fz3 pW pV j0 ha0 hmm;go_cut [] from 60 to 374 (fun wx=>∃(g:Fnt) (cs:List Value),TD w wx Wq.heap.size cs g/\afj g)
 case first=>
  have wP:=HT.out.low.size;have lC:Hid (Below w.heap.size w W1):=hd0 HT.out.low;obtain⟨x,D3,d3,D4,d4,D5,d5,D6,d6,D7,d7,D8,d8,hx,l4,l5,l6,l7,l8,hgr,t4,t5,t6,t7,t8⟩:=HT.out.aeT hin;have HX:=hd0 (HS.out.aeT x (agM hx.out));have vY:G<W1.heap.size:=by obtain⟨gc,iI,h1,-⟩:=HT.out.gB;exact h1.lt
  have T4:=hd0 t4;have T5:=hd0 t5;have T6:=hd0 t6;have T7:=hd0 t7;have T8:=hd0 t8;have bn:decide ((0:Int)<(f.aeN.length:Int))=true:=decide_eq_true (by omega);clear hgr t4 t5 t6 t7 t8;subst hq;obtain⟨v3,Gs,wX⟩:=aH (nn:Int) 3 (by omega) (by omega);rw[show((3:Nat):Int)=3 from rfl] at Gs;have hnm:∃nm:B,([.string ⟨#[97,120,97]⟩,.string ⟨#[113]⟩,.string ⟨#[]⟩]:List Value)[v3]'(by simpa using wX)= .string ⟨nm.toArray⟩/\nm.length<=17:=by
   have:v3=0\/v3=1\/v3=2:=by omega
   rcases this with rfl|rfl|rfl<;>exact⟨_,rfl,by decide⟩
  obtain⟨nm,hnm,hnl⟩:=hnm;clear l4 l5 l6 l7 l8;go_wp2_with fail
  refine QX HT HS nn v3 nM Gs wX nm hnm hnl _ _ (by kernel_rfl) _ _ rfl rfl rfl ?_;intro vs wx g cs hl hT hB;have gu:=hd0 hT;have iD:=hd0 hB;clear hT hB;obtain⟨z0,z1,z2,z3,z4,z5,z6,z7,z8,z9,z10,z11,z12,z13,rfl⟩:=ZP hl;simp only[afi,List.setIfInBounds_toArray,List.set_cons_zero,List.set_cons_succ];clear hl;go_wp2_with fail
  go_meet
  exact⟨_,_,gu.out,iD.out⟩
 case rest=>
 obtain⟨g,cs,hT,hB⟩:=hcut;obtain⟨hst,hbk,hsz,hpo⟩:=hT.fin hB;have gV:=hd0 hbk;have qi:=hd0 hsz;have rH:=hd0 hpo;have fM:=hd0 hT.box;obtain⟨B1,e1,B2,e2,B3,e3,B4,e4,B5,e5,B6,e6,B7,e7,B8,e8,rfl,-⟩:=hT.fnt;obtain⟨k0,k1,k2,k3,k4,k5,k6,k7,k8⟩:=nine fM.out (agE _ _);clear hbk hsz hpo hT hB HT HS;go_wp2_with fail
 exact bodyPost_ret (fC gV.out qi.out) rfl rH.out
end
section
theorem PD (w:World)(f:Fnt)(fc:List Value)(hf:afe w (Tf w) fc f)(hS:afz f)(h0:0<f.aeN.length)(q0 q1 q2:Int):Calls Tryd.prog 7 #[.agg fc.toArray,.agg #[.int .i64 q0,.int .i64 q1,.int .i64 q2]] w (jF w):=by
 obtain⟨A1,c1,A2,c2,A3,c3,A4,c4,A5,c5,A6,c6,A7,c7,A8,c8,rfl,i0,s1,s2,s3,s4,s5,s6,s7,s8⟩:=hf;obtain⟨r0,ha0,hr0,adI⟩:=aU q0 16 (by omega);obtain⟨m,hm0,aev⟩:=aH (r0+(16:Nat)) 16 (by omega) (by omega);have e16:((16:Nat):Int)=16:=rfl;rw[e16] at ha0 hm0;have hq:(q0.tmod 16+16).tmod 16=(m:Int):=by rw[ha0,hm0]
 have:m=0\/m=1\/m=2\/m=3\/m=4\/m=5\/m=6\/m=7\/m=8\/m=9\/m=10\/m=11\/m=12\/m=13\/m=14\/m=15:=by omega
 rcases this with rfl|rfl|rfl|rfl|rfl|rfl|rfl|rfl|rfl|rfl|rfl|rfl|rfl|rfl|rfl|rfl
 ·exact xh w f A1 A2 A3 A4 A5 A6 A7 A8 c1 c2 c3 c4 c5 c6 c7 c8 i0 s1 s2 s3 s4 s5 s6 s7 s8 hS h0 q0 q1 q2 (.inl hq)
 ·exact xh w f A1 A2 A3 A4 A5 A6 A7 A8 c1 c2 c3 c4 c5 c6 c7 c8 i0 s1 s2 s3 s4 s5 s6 s7 s8 hS h0 q0 q1 q2 (.inr (.inl hq))
 ·exact xh w f A1 A2 A3 A4 A5 A6 A7 A8 c1 c2 c3 c4 c5 c6 c7 c8 i0 s1 s2 s3 s4 s5 s6 s7 s8 hS h0 q0 q1 q2 (.inr (.inr hq))
 ·exact wG w f A1 A2 A3 A4 A5 A6 A7 A8 c1 c2 c3 c4 c5 c6 c7 c8 i0 s1 s2 s3 s4 s5 s6 s7 s8 hS h0 q0 q1 q2 (.inl hq)
 ·exact wG w f A1 A2 A3 A4 A5 A6 A7 A8 c1 c2 c3 c4 c5 c6 c7 c8 i0 s1 s2 s3 s4 s5 s6 s7 s8 hS h0 q0 q1 q2 (.inr (.inl hq))
 ·exact wG w f A1 A2 A3 A4 A5 A6 A7 A8 c1 c2 c3 c4 c5 c6 c7 c8 i0 s1 s2 s3 s4 s5 s6 s7 s8 hS h0 q0 q1 q2 (.inr (.inr hq))
 ·exact wW w f A1 A2 A3 A4 A5 A6 A7 A8 c1 c2 c3 c4 c5 c6 c7 c8 i0 s1 s2 s3 s4 s5 s6 s7 s8 hS h0 q0 q1 q2 (.inl hq)
 ·exact wW w f A1 A2 A3 A4 A5 A6 A7 A8 c1 c2 c3 c4 c5 c6 c7 c8 i0 s1 s2 s3 s4 s5 s6 s7 s8 hS h0 q0 q1 q2 (.inr (.inl hq))
 ·exact wW w f A1 A2 A3 A4 A5 A6 A7 A8 c1 c2 c3 c4 c5 c6 c7 c8 i0 s1 s2 s3 s4 s5 s6 s7 s8 hS h0 q0 q1 q2 (.inr (.inr hq))
 ·exact EJ w f A1 A2 A3 A4 A5 A6 A7 A8 c1 c2 c3 c4 c5 c6 c7 c8 i0 s1 s2 s3 s4 s5 s6 s7 s8 hS h0 q0 q1 q2 (.inl hq)
 ·exact EJ w f A1 A2 A3 A4 A5 A6 A7 A8 c1 c2 c3 c4 c5 c6 c7 c8 i0 s1 s2 s3 s4 s5 s6 s7 s8 hS h0 q0 q1 q2 (.inr hq)
 ·exact DX w f A1 A2 A3 A4 A5 A6 A7 A8 c1 c2 c3 c4 c5 c6 c7 c8 i0 s1 s2 s3 s4 s5 s6 s7 s8 hS h0 q0 q1 q2 (.inl hq)
 ·exact PI w f A1 A2 A3 A4 A5 A6 A7 A8 c1 c2 c3 c4 c5 c6 c7 c8 i0 s1 s2 s3 s4 s5 s6 s7 s8 hS h0 q0 q1 q2 hq
 ·exact PZ w f A1 A2 A3 A4 A5 A6 A7 A8 c1 c2 c3 c4 c5 c6 c7 c8 i0 s1 s2 s3 s4 s5 s6 s7 s8 hS h0 q0 q1 q2 hq
 ·exact DX w f A1 A2 A3 A4 A5 A6 A7 A8 c1 c2 c3 c4 c5 c6 c7 c8 i0 s1 s2 s3 s4 s5 s6 s7 s8 hS h0 q0 q1 q2 (.inr hq)
 exact NZ w f A1 A2 A3 A4 A5 A6 A7 A8 c1 c2 c3 c4 c5 c6 c7 c8 i0 s1 s2 s3 s4 s5 s6 s7 s8 hS h0 q0 q1 q2 hq
theorem afe.tfU {w w':World}{fc:List Value}{f:Fnt}(h:afe w (Tf w) fc f)(hb:Below w.heap.size w w'):afe w' (Tf w') fc f:=afe.ok.mono (afe.ok.keep h (fun b hb'=>hb.block b (Tf.lt b hb'))) (Tf.low hb)
theorem afe.tfl {w:World}{fc:List Value}{f:Fnt}(h:afe w (Tf w) fc f):afe w (Lw w) fc f:=afe.ok.mono h Tf.lt
theorem afe.agy {w:World}{f:Fnt}{A1 A2 A3 A4 A5 A6 A7 A8:Option Addr}{c1 c2 c3 c4 c5 c6 c7 c8:Nat}(h:afe w (Lw w) [.int .i64 f.unit,.slice A1 f.aeN.length c1,.slice A2 f.chars.length c2,.slice A3 f.aeO.length c3,.slice A4 f.features.length c4,.slice A5 f.aeP.length c5,.slice A6 f.regions.length c6,.slice A7 f.funcs.length c7,.slice A8 f.cvt.length c8] f):FIn ⟨A1,c1,A2,c2,A3,c3,A4,c4,A5,c5,A6,c6,A7,c7,A8,c8⟩ f w:=by obtain⟨B1,d1,B2,d2,B3,d3,B4,d4,B5,d5,B6,d6,B7,d7,B8,d8,e,r0,h1,h2,h3,h4,h5,h6,h7,h8⟩:=h;simp only[ahp,ahr,and_true,true_and] at e;obtain⟨⟨rfl,rfl⟩,⟨rfl,rfl⟩,⟨rfl,rfl⟩,⟨rfl,rfl⟩,⟨rfl,rfl⟩,⟨rfl,rfl⟩,⟨rfl,rfl⟩,⟨rfl,rfl⟩⟩:=e;exact⟨r0,h1,h2,h3,h4,h5,h6,h7,h8⟩
theorem abf {f:Fnt}(h:afx f):∀g∈f.aeN,g.points.length<=1000000000/\g.ends.length<=1000000000:=fun g hg=>by
 have k:=h.aeN.each g hg;have a:=k.pts.1;have b:=k.ends.1;exact⟨by omega,by omega⟩
theorem afM.few {f:Fnt}(h:afM f):afz f:=by
 have hs:=h.small;refine⟨⟨by have:=hs.aeN.1;unfold Big;omega,by have:=hs.chars;unfold Big;omega,by have:=hs.aeO.1;unfold Big;omega,by have:=hs.aeX.1;unfold Big;omega,by have:=hs.aeP;unfold Big;omega,by have:=hs.regs.1;unfold Big;omega,by have:=hs.funcs.1;unfold Big;omega,by have:=hs.cvt;unfold Big;omega,fun g hg=> ?_,fun l hl=> ?_,fun x hx=> ?_,fun a ha=> ?_,fun r hr=> ?_,fun p hp=> ?_⟩,by have:=hs.aeN.1;unfold Few;omega,by have:=hs.chars;unfold Few;omega,by have:=hs.aeO.1;unfold Few;omega,by have:=hs.aeX.1;unfold Few;omega,by have:=hs.aeP;unfold Few;omega,by have:=hs.regs.1;unfold Few;omega,by have:=hs.funcs.1;unfold Few;omega,by have:=hs.cvt;unfold Few;omega,fun g hg=> ?_,fun l hl=> ?_⟩
 ·have k:=hs.aeN.2 g hg;have n:=iH (h.right.aeN g hg).name;have k1:=k.pts;have k2:=k.ends;have k3:=k.parts;have k4:=k.anch;have k5:=k.ae3;have k6:=k.hint;exact⟨by unfold Big;omega,by unfold Big;omega,by unfold Big;omega,by unfold Big;omega,by unfold Big;omega,by unfold Big;omega,by unfold Big;omega⟩
 ·have k:=hs.aeO.2 l hl;have k1:=k.1;refine⟨by unfold Big;omega,fun r hr=> ?_⟩;have q:=k.2 r hr;obtain⟨q1,q2,q3⟩:=q.rows;obtain⟨q4,q5,q6⟩:=q.sets;obtain⟨q7,q8⟩:=q.outs;refine⟨⟨by unfold Big;omega,by unfold Big;omega,by unfold Big;omega,by unfold Big;omega,by unfold Big;omega⟩,fun s hs=> ?_⟩;rw[agJ,agJ] at hs;unfold Big;rcases hs with(hs|hs)|hs
  ·have:=q4 s hs;omega
  ·have:=q5 s hs;omega
  have:=q6 s hs;omega
 ·have n:=iH (h.right.aeX x hx).1;have k:=hs.aeX.2 x hx;exact⟨by unfold Big;omega,by unfold Big;omega⟩
 ·have n:=iH (h.right.aeP a ha).1;unfold Big;omega
 ·have k:=hs.regs.2 r hr;unfold Big;omega
 ·have k:=hs.funcs.2 p hp;unfold Big;omega
 ·have k:=hs.aeN.2 g hg;have n:=iH (h.right.aeN g hg).name;have k1:=k.pts;have k2:=k.ends;have k3:=k.parts;have k4:=k.anch;have k5:=k.ae3;have k6:=k.hint;exact⟨by unfold Few;omega,by unfold Few;omega,by unfold Few;omega,by unfold Few;omega,by unfold Few;omega,by unfold Few;omega,by unfold Few;omega⟩
 have k:=(hs.aeO.2 l hl).1;unfold Few;omega
theorem ER {f g:Fnt}(hf:afs f)(hg:afs g):(gp f==gp g)=(eF f==eF g):=by
 by_cases h:f=g
 ·subst h;simp
 have h1:¬gp f=gp g:=fun e=>h (OA hf hg e)
 have h2:¬eF f=eF g:=fun e=>h (MQ e)
 rw[Bool.eq_iff_iff,beq_iff_eq,beq_iff_eq];exact⟨fun e=>absurd e h1,fun e=>absurd e h2⟩
theorem zn (w:World)(A:Option Addr)(n c:Nat)(zs:List Int)(hc:n<=c)(hr:Rd w w.heap.size A n 1 (aN zs))(hz:∀z∈zs,I64 z)(A':Option Addr)(n' c':Nat)(zs':List Int)(hc':n'<=c')(hr':Rd w w.heap.size A' n' 1 (aN zs'))(hz':∀z∈zs',I64 z)(q0 q1 q2:Int)(hq0:(Lit.int .i64 q0).wf=true)(hq1:(Lit.int .i64 q1).wf=true)(hq2:(Lit.int .i64 q2).wf=true)(hT:Tabs w)(hG:nG<=w.heap.size):
  Calls Tryd.prog 3 #[.slice A n c,.slice A' n' c',.agg #[.int .i64 q0,.int .i64 q1,.int .i64 q2]] w fun e w'=>e= .returned (.bool true)/\Below w.heap.size w w':=by
 have HT:=hd0 hT;obtain⟨Wt,hWt,hbt,hkt⟩:=aB w 23 #[.int .i64 q0,.int .i64 q1,.int .i64 q2];have HBt:Hid (Below w.heap.size w Wt):=hd0 hbt;have Yy:=hd0 hkt;have zt:=hbt.size;have hmk:=hd0 (Ig Wt A n c zs hc ((hr.below hbt (ai _)).mono zt) hz);have YY:=hd0 (fun(v:World) (hb:Below w.heap.size w v)=>Ig v A' n' c' zs' hc' ((hr'.below hb (ai _)).mono hb.size) hz');clear hr hz hr' hz' hT hbt hkt hq0 hq1 hq2;go_enter Tryd.func3,Tryd.ntmps3
 go_wp2_with fail
 try clear hWt
 refine hmk.out.mono ?_;rintro e w1 ⟨f,fc,hm,rfl,hf,hb1⟩;have zC:=hd0 hm;have HF:=hd0 hf;obtain⟨A1,c1,A2,c2,A3,c3,A4,c4,A5,c5,A6,c6,A7,c7,A8,c8,rfl,-⟩:=hf;obtain⟨W1,hW1,hbW,hkW⟩:=aB w1 32 #[.int .i64 f.unit,.slice A1 f.aeN.length c1,.slice A2 f.chars.length c2,.slice A3 f.aeO.length c3,.slice A4 f.features.length c4,.slice A5 f.aeP.length c5,.slice A6 f.regions.length c6,.slice A7 f.funcs.length c7,.slice A8 f.cvt.length c8];have HB1:Hid (Below w.heap.size w W1):=hd0 (HBt.out.trans ((hb1.trans (hbW.mono hb1.size)).mono zt));have VZ:Hid (Below Wt.heap.size Wt W1):=hd0 (hb1.trans (hbW.mono hb1.size));have XB:=hd0 hkW;have jK:=hd0 (HF.out.tfU hbW);have z1:=HB1.out.size;clear hm hb1 hbW hkW HF hmk;go_wp2_with fail
 try clear hW1
 refine(YY.out W1 HB1.out).mono ?_;rintro e w2 ⟨g,gc,hm,rfl,hf,hb2⟩;have Qc:=hd0 hm;have HG:=hd0 hf;obtain⟨B1,d1,B2,d2,B3,d3,B4,d4,B5,d5,B6,d6,B7,d7,B8,d8,rfl,-⟩:=hf;obtain⟨W2,hW2,hbW,hkW⟩:=aB w2 32 #[.int .i64 g.unit,.slice B1 g.aeN.length d1,.slice B2 g.chars.length d2,.slice B3 g.aeO.length d3,.slice B4 g.features.length d4,.slice B5 g.aeP.length d5,.slice B6 g.regions.length d6,.slice B7 g.funcs.length d7,.slice B8 g.cvt.length d8];have oZ:Hid (Below W1.heap.size W1 W2):=hd0 (hb2.trans (hbW.mono hb2.size));have HB2:Hid (Below w.heap.size w W2):=hd0 (HB1.out.trans (oZ.out.mono z1));have qU:=hd0 hkW;have HG2:=hd0 (HG.out.tfU hbW);have HF2:=hd0 (jK.out.tfU oZ.out);have z2:=HB2.out.size;obtain⟨k0,k1,k2,k3,k4,k5,k6,k7,k8⟩:=nine XB.out oZ.out;have Nv:Below Wt.heap.size Wt W2:=VZ.out.trans (oZ.out.mono VZ.out.size);have j0:=Yy.out.at Nv 0 rfl;have j1:=Yy.out.at Nv 1 rfl;have j2:=Yy.out.at Nv 2 rfl;have HTU:=hd0 (PD W2 f _ HF2.out zC.out.few zC.out.two q0 q1 q2);clear hm hb2 hbW hkW HG YY Nv;go_wp2_with fail
 try clear hW2
 refine HTU.out.mono ?_;rintro e w3 ⟨h,hc,hBh,rfl,hf,hb3⟩;have HBh:=hd0 hBh;have HH:=hd0 hf;obtain⟨C1,e1,C2,e2,C3,e3,C4,e4,C5,e5,C6,e6,C7,e7,C8,e8,rfl,-⟩:=hf;obtain⟨W3,hW3,hbW,hkW⟩:=aB w3 32 #[.int .i64 h.unit,.slice C1 h.aeN.length e1,.slice C2 h.chars.length e2,.slice C3 h.aeO.length e3,.slice C4 h.features.length e4,.slice C5 h.aeP.length e5,.slice C6 h.regions.length e6,.slice C7 h.funcs.length e7,.slice C8 h.cvt.length e8];have Iq:Hid (Below W2.heap.size W2 W3):=hd0 (hb3.trans (hbW.mono hb3.size));have La:Hid (Below W1.heap.size W1 W3):=hd0 (oZ.out.trans (Iq.out.mono oZ.out.size));have HB3:Hid (Below w.heap.size w W3):=hd0 (HB2.out.trans (Iq.out.mono z2));have xe:=hd0 hkW;have Uo:=hd0 (HH.out.tfU hbW);have WG:=hd0 (HG2.out.tfU Iq.out);have HF3:=hd0 (HF2.out.tfU Iq.out);have z3:=HB3.out.size;clear k0 k1 k2 k3 k4 k5 k6 k7 k8 j0 j1 j2 HTU hBh hb3 hbW hkW HH
 go_upto_region 4 with fail
 try rw[hW3]
 try clear hW3
 obtain⟨k0,k1,k2,k3,k4,k5,k6,k7,k8⟩:=nine XB.out La.out;obtain⟨j0,j1,j2,j3,j4,j5,j6,j7,j8⟩:=nine qU.out Iq.out;have x0:=ag k0;have x1:=ag k1;have x2:=ag k2;have x3:=ag k3;have x4:=ag k4;have x5:=ag k5;have x6:=ag k6;have x7:=ag k7;have x8:=ag k8;have y0:=ag j0;have y1:=ag j1;have y2:=ag j2;have y3:=ag j3;have y4:=ag j4;have y5:=ag j5;have y6:=ag j6;have y7:=ag j7;have y8:=ag j8;have GR:=hd0 (aC (W:=W3) (fun w' hw'=>wC w' f _ (HT.out.all (HB3.out.trans (hw'.mono z3))) (nt hG (nt z3 hw'.size)) (HF3.out.tfU hw') zC.out));have Gt:=hd0 (aC (W:=W3) (fun w' hw'=>wC w' g _ (HT.out.all (HB3.out.trans (hw'.mono z3))) (nt hG (nt z3 hw'.size)) (WG.out.tfU hw') Qc.out));have HSc:=hd0 (aC (W:=W3) (fun w' hw'=>JH w' f g _ _ (HF3.out.tfU hw').tfl (WG.out.tfU hw').tfl (tC zC.out.right zC.out.small.cap) (tC Qc.out.right Qc.out.small.cap)));clear k0 k1 k2 k3 k4 k5 k6 k7 k8 j0 j1 j2 j3 j4 j5 j6 j7 j8;refine bT (fun v=>Below W3.heap.size W3 v) (by kernel_rfl) (by kernel_rfl) ((agE W3.heap.size W3).drew) ?_;have aQ:Nonempty (WIn (fun v=>Below W3.heap.size W3 v)):=⟨⟨_,((agE W3.heap.size W3).drew)⟩⟩
 repeat(go_big_quiet_step (first|with_reducible exact GR.out _|with_reducible exact Gt.out _|with_reducible exact HSc.out _))
 refine wpQuiet_nil ?_;intro _ hw';obtain⟨xq,hw''⟩:=hw';subst hw'';have HB4:Hid (Below W3.heap.size W3 xq.w):=hd0 xq.ok;generalize xq.w=W4 at*
 clear x0 x1 x2 x3 x4 x5 x6 x7 x8 y0 y1 y2 y3 y4 y5 y6 y7 y8 GR Gt HSc aQ WG qU;rw[ER zC.out.right Qc.out.right];simp only[beq_self_eq_true,Bool.not_true];clear Qc;have z4:=HB4.out.size;have HT4:=hd0 (HT.out.all (HB3.out.trans (HB4.out.mono z3)));have HP:=hd0 (Nr W4.drew (HT4.out.all (agE _ _).drew) (by have:W4.drew.heap.size=W4.heap.size:=rfl;omega))
 go_upto_region 6 with fail
 refine EZ 10 (by kernel_rfl) (by kernel_rfl) (by kernel_rfl) (by kernel_rfl) ?_;simp only[List.take_succ_cons,List.take_zero,List.drop_succ_cons,List.drop_zero];go_wp2_with fail
 refine HP.out.mono ?_;rintro e w5 ⟨rfl,hb5⟩;have gq:Hid (Below W4.heap.size W4 w5):=hd0 ((agE _ _).drew.trans hb5);have Ie:Hid (Below W3.heap.size W3 w5):=hd0 (HB4.out.trans (gq.out.mono z4));have HH5:=hd0 (Uo.out.tfU Ie.out);obtain⟨k0,k1,k2,k3,k4,k5,k6,k7,k8⟩:=nine xe.out Ie.out;have iD:=hd0 (WR w5 h C1 C2 C3 C4 C5 C6 C7 C8 e1 e2 e3 e4 e5 e6 e7 e8 (afe.agy HH5.out.tfl) HBh.out);clear hb5 HP;go_wp2_with fail
 refine iD.out.mono ?_;rintro e w6 ⟨b,rfl,hb6⟩;have dU:Hid (Below W3.heap.size W3 w6):=hd0 (Ie.out.trans (hb6.mono Ie.out.size));clear hb6 iD k0 k1 k2 k3 k4 k5 k6 k7 k8 gq Ie HH5;have z6:=dU.out.size;obtain⟨k0,k1,k2,k3,k4,k5,k6,k7,k8⟩:=nine xe.out dU.out;cases b
 ·have Oi:=hd0 (Uo.out.tfU dU.out);have Uc:=hd0 (QD w6 h C1 C2 C3 C4 C5 C6 C7 C8 e1 e2 e3 e4 e5 e6 e7 e8 (afe.agy Oi.out.tfl) HBh.out);go_wp2_with fail
  refine Uc.out.mono ?_;rintro e w7 ⟨b,rfl,hk,hb7⟩;have jI:Hid (Below W3.heap.size W3 w7):=hd0 (dU.out.trans (hb7.mono z6));clear hb7 Uc k0 k1 k2 k3 k4 k5 k6 k7 k8 dU Oi;have z7:=jI.out.size;cases b
  ·clear hk;go_wp2_with fail
   unfold vJ;refine⟨fun v=>Below W3.heap.size W3 v,jI.out,?_⟩;have aQ:Nonempty (WIn (fun v=>Below W3.heap.size W3 v)):=⟨⟨_,jI.out⟩⟩
   repeat(go_big_quiet_step (fail))
   refine wpQuiet_nil ?_;intro _ hw';obtain⟨xq,hw''⟩:=hw';subst hw'';have fM:Hid (Below W3.heap.size W3 xq.w):=hd0 xq.ok;generalize xq.w=W9 at*
   clear aQ;go_wp2_with fail
   go_ret
   exact⟨rfl,HB3.out.trans (fM.out.mono z3)⟩
  have KD:=hd0 (hk rfl);clear hk;go_wp2_with fail
  unfold vJ;have aco:=La.out.trans (jI.out.mono La.out.size);obtain⟨k0,k1,k2,k3,k4,k5,k6,k7,k8⟩:=nine XB.out La.out;obtain⟨j0,j1,j2,j3,j4,j5,j6,j7,j8⟩:=nine xe.out (agE _ _);have x0:=ag k0;have x1:=ag k1;have x2:=ag k2;have x3:=ag k3;have x4:=ag k4;have x5:=ag k5;have x6:=ag k6;have x7:=ag k7;have x8:=ag k8;have y0:=ag j0;have y1:=ag j1;have y2:=ag j2;have y3:=ag j3;have y4:=ag j4;have y5:=ag j5;have y6:=ag j6;have y7:=ag j7;have y8:=ag j8;have GR:=hd0 (aC (W:=W3) (fun w' hw'=>wC w' f _ (HT.out.all (HB3.out.trans (hw'.mono z3))) (nt hG (nt z3 hw'.size)) (HF3.out.tfU hw') zC.out));have Gt:=hd0 (aC (W:=W3) (fun w' hw'=>AX w' h _ (HT.out.all (HB3.out.trans (hw'.mono z3))) (nt hG (nt z3 hw'.size)) (afe.ok.mono (Uo.out.tfU hw') Tf.ft) (abf KD.out) (nt KD.out.len (by decide))));have HSc:=hd0 (aC (W:=W3) (fun w' hw'=>JH w' f h _ _ (HF3.out.tfU hw').tfl (Uo.out.tfU hw').tfl (tC zC.out.right zC.out.small.cap) KD.out.print));clear aco k0 k1 k2 k3 k4 k5 k6 k7 k8 j0 j1 j2 j3 j4 j5 j6 j7 j8;refine⟨fun v=>Below W3.heap.size W3 v,jI.out,?_⟩;have aQ:Nonempty (WIn (fun v=>Below W3.heap.size W3 v)):=⟨⟨_,jI.out⟩⟩
  repeat(go_big_quiet_step (first|with_reducible exact GR.out _|with_reducible exact Gt.out _|with_reducible exact HSc.out _))
  refine wpQuiet_nil ?_;intro _ hw';obtain⟨xq,hw''⟩:=hw';subst hw'';have fM:Hid (Below W3.heap.size W3 xq.w):=hd0 xq.ok;generalize xq.w=W9 at*
  clear x0 x1 x2 x3 x4 x5 x6 x7 x8 y0 y1 y2 y3 y4 y5 y6 y7 y8 GR Gt HSc aQ;rw[ER zC.out.right KD.out.right];simp only[beq_self_eq_true];go_wp2_with fail
  go_ret
  exact⟨rfl,HB3.out.trans (fM.out.mono z3)⟩
 go_wp2_with fail
 unfold vJ;refine⟨fun v=>Below W3.heap.size W3 v,dU.out,?_⟩;have aQ:Nonempty (WIn (fun v=>Below W3.heap.size W3 v)):=⟨⟨_,dU.out⟩⟩
 repeat(go_big_quiet_step (fail))
 refine wpQuiet_nil ?_;intro _ hw';obtain⟨xq,hw''⟩:=hw';subst hw'';have fM:Hid (Below W3.heap.size W3 xq.w):=hd0 xq.ok;generalize xq.w=W9 at*
 clear aQ;go_wp2_with fail
 go_ret
 exact⟨rfl,HB3.out.trans (fM.out.mono z3)⟩
end
end Go.Proofs.YtkijckccfookeaaDoor
