/- Lemmas. -/
import Derived.Test.YtkijckccfookeaaDoorX25
set_option linter.unusedVariables false
set_option linter.unusedSimpArgs false
set_option maxRecDepth 100000
set_option maxHeartbeats 32000000
namespace Go.Proofs.YtkijckccfookeaaDoor
open Go.RowKit
section
attribute [-go_sem] Builtin.append_
theorem OO (w:World)(m:Nat)(fs:Nat->Value)(lp:Int)(G:Nat)(Ag:Option Addr)(cg:Nat)(Ac:Option Addr)(nc cc:Nat)(h:Mk w m fs lp)(hf:fs 1= .slice Ag G cg)(h1:1<=G)(hG:G<=1000):Calls Tryd.prog 64 #[.pointer (some ⟨m,0,none⟩),.int .i64 6,.slice Ac nc cc] w (jD w m fs lp G 6):=by
 have hmw:=h.lt;have qg:w.cell? ⟨m,3,none⟩=some (.slice Ag G cg):=by have:=h.cells.1 1 (by omega);rw[hf] at this;exact this
 have H:=hd0 h;have HF:=hd0 hf;clear h hf;go_enter Tryd.func64,Tryd.ntmps64
 go_wp2_with fail
 obtain⟨W0,hW0⟩:∃W0,(w.alloc (.cells dR bJ)).alloc (.cells dR bJ)=W0:=⟨_,rfl⟩
 have HR:Hid (RS w m fs lp dR W0):=by rw[<-hW0];exact hd0 (RS.begin H.out)
 have z0:W0.heap.size=w.heap.size+2:=by rw[<-hW0];simp
 unfold dR at hW0;rw[hW0];clear hW0 qg;refine(mX W0 m fs lp G Ag cg HR.out.mkr HF.out h1 hG).mono ?_;rintro e w1 ⟨s,As,cs,hs,hs1,rfl,hsl,hm1,hv1⟩;have HR1:=hd0 (HR.out.next hm1 hv1);have qo:=hd0 (Frz.of aeQ.ok hsl);have HS:=hd0 hs;have z1:=hv1.size;have x1:w1.cell? ⟨w.heap.size+1,1,none⟩=some (.slice none 0 0):=HR1.out.cell 1;have y1:=HR1.out.var.frozen 1;have zr:=HR1.out.var.lt;clear hsl hm1 hv1 HR hs;go_wp2_with fail
 obtain⟨W2,hW2⟩:∃W2,(w1.setCell ⟨w.heap.size+1,1,none⟩ (.slice (some ⟨w1.heap.size,0,none⟩) 1 1)).alloc (.cells #[.slice As s.length cs] tRow)=W2:=⟨_,rfl⟩
 rw[hW2];obtain⟨hR2,hF2,hO2,z2⟩:=HR1.out.in0 hmw qo.out (by omega) (by omega) hW2;have HR2:=hd0 hR2;have F2:=hd0 hF2;have O2:=hd0 hO2;clear hR2 hF2 hO2 hW2 x1 y1 HR1 qo;have x2:W2.cell? ⟨w.heap.size+1,1,none⟩=some (.slice (some ⟨w1.heap.size,0,none⟩) 1 1):=HR2.out.cell 1;have gZ:w.heap.size+1≠m:=by omega
 have bH:True:=trivial
 first|(go_region_with (go_at_call 88;have _t:=bH;refine(mX _ m fs lp G Ag cg (by exact HR2.out.drew.mkr) HF.out h1 hG).mono ?_;rintro e w3 ⟨t,At,ct,ht,ht1,rfl,htl,aX,hv3⟩;have x3:=dh hv3 gZ x2;have HR3:=HR2.out.drew.next aX hv3;have z3:=hv3.size;have Bg:=HR3.var.lt;have o3:=(Sp.next HR2.out.drew.mkr hv3).own (show W2.drew.ownsRow (w.heap.size+2) tRow 1 (.slice (some ⟨w1.heap.size,0,none⟩) 1 1) 1 [.slice As s.length cs] from O2.out) (by decide);have F3:=hd0 (Frz.next aeQ.ok (show Sl aeQ 1 W2.drew (TR [aF] W0.heap.size w1.heap.size W2.drew) As s from F2.out) (by omega) hv3);have FT:=hd0 (Frz.of aeQ.ok htl);have z3':W2.heap.size<=w3.heap.size:=z3;obtain⟨A5,c5,w9,hrun,x9,y9,dA,dG,h9⟩:=HR3.more hmw MR (by decide) (by decide) (j:=1) (by omega) (by omega) rfl o3 #[.slice At t.length ct] rfl (by simp[Value.oneCell']) (by omega);have V5:=hd0 dA;have jX:=hd0 dG;have ik:=hd0 h9;have HT:=hd0 ht;clear _t bH HR3 o3 dA dG h9 htl ht ht1))|fail
 all_goals
  have mi:Hid (RS w m fs lp #[.slice none 0 0,.slice A5 2 c5,.slice none 0 0,.slice none 0 0,.slice none 0 0,.int .i64 0] (w9.setCell ⟨w.heap.size+1,1,none⟩ (.slice A5 2 c5))):=hd0 (ik.out.put hmw 1 _);have Yw:=hd0 ((Sp.set ik.out.var (show m<=w.heap.size+1 by omega) 1 (.slice A5 2 c5)).own jX.out (by decide));have V9:=hd0 (Frz.put aeQ.ok (Frz.row aeQ.ok F3.out V5.out (fun x hx=>by simp[Value.ownBlock] at hx;exact .inr (by omega))) (g:=w.heap.size+1) (.inl (by omega)) 1 (.slice A5 2 c5));have WB:=hd0 (Frz.put aeQ.ok (Frz.row aeQ.ok FT.out V5.out (fun x hx=>by simp[Value.ownBlock] at hx;exact .inl (by simp;omega))) (g:=w.heap.size+1) (.inl (by simp;omega)) 1 (.slice A5 2 c5));have zd:W2.drew.heap.size=w1.heap.size+1:=z2;obtain⟨Wa,hWa⟩:∃Wa,w9.setCell ⟨w.heap.size+1,1,none⟩ (.slice A5 2 c5)=Wa:=⟨_,rfl⟩
  rw[hWa] at mi Yw V9 WB ⊢;clear hWa V5 jX ik F3 FT hrun x9 y9 x3;go_wp2_with fail
  refine(ay Wa m fs lp 41 mi.out.mkr (by omega) (by omega)).mono ?_;rintro e wb ⟨x,hx,rfl,hmb,hvb⟩;have mD:=hd0 (mi.out.next hmb hvb);have OIb:=hd0 ((Sp.next mi.out.mkr hvb).own Yw.out (by decide));have FSb:=hd0 (Frz.next aeQ.ok V9.out (by omega) hvb);have FTb:=hd0 (Frz.next aeQ.ok WB.out (by omega) hvb);clear hmb hvb mi Yw V9 WB;have v5:wb.cell? ⟨w.heap.size+1,5,none⟩=some (.int .i64 0):=mD.out.cell 5;have y5:=mD.out.var.frozen 5;have v0:wb.cell? ⟨w.heap.size+1,0,none⟩=some (.slice none 0 0):=mD.out.cell 0;have v1:wb.cell? ⟨w.heap.size+1,1,none⟩=some (.slice A5 2 c5):=mD.out.cell 1;have v2:wb.cell? ⟨w.heap.size+1,2,none⟩=some (.slice none 0 0):=mD.out.cell 2;have v3:wb.cell? ⟨w.heap.size+1,3,none⟩=some (.slice none 0 0):=mD.out.cell 3;have v4:wb.cell? ⟨w.heap.size+1,4,none⟩=some (.slice none 0 0):=mD.out.cell 4;have r0:wb.cell? ⟨w.heap.size,0,none⟩=some (.slice none 0 0):=mD.out.res.cell 0;have r1:wb.cell? ⟨w.heap.size,1,none⟩=some (.slice none 0 0):=mD.out.res.cell 1;have r2:wb.cell? ⟨w.heap.size,2,none⟩=some (.slice none 0 0):=mD.out.res.cell 2;have r3:wb.cell? ⟨w.heap.size,3,none⟩=some (.slice none 0 0):=mD.out.res.cell 3;have r4:wb.cell? ⟨w.heap.size,4,none⟩=some (.slice none 0 0):=mD.out.res.cell 4;have r5:wb.cell? ⟨w.heap.size,5,none⟩=some (.int .i64 0):=mD.out.res.cell 5;have f0:=mD.out.res.frozen 0;have f1:=mD.out.res.frozen 1;have f2:=mD.out.res.frozen 2;have f3:=mD.out.res.frozen 3;have f4:=mD.out.res.frozen 4;have f5:=mD.out.res.frozen 5;go_wp2_with fail
  have OZ:RS w m fs lp #[.slice none 0 0,.slice A5 2 c5,.slice none 0 0,.slice none 0 0,.slice none 0 0,.int .i64 ((x:Int)*10 - 200)] (wb.setCell ⟨w.heap.size+1,5,none⟩ (.int .i64 ((x:Int)*10 - 200))):=mD.out.put hmw 5 _;have spc:=Sp.set (m:=m) mD.out.var (show m<=w.heap.size+1 by omega) 5 (.int .i64 ((x:Int)*10 - 200));have OIc:=spc.own OIb.out (by decide);have FSc:=Frz.typed aeQ.ok (Frz.put aeQ.ok FSb.out (g:=w.heap.size+1) (.inl (by omega)) 5 (.int .i64 ((x:Int)*10 - 200))) (ts':=gX) (base:=w.heap.size) (by decide) (by omega);have FTc:=Frz.typed aeQ.ok (Frz.put aeQ.ok FTb.out (g:=w.heap.size+1) (.inl (by omega)) 5 (.int .i64 ((x:Int)*10 - 200))) (ts':=gX) (base:=w.heap.size) (by decide) (by omega);obtain⟨Wc,hWc⟩:∃Wc,wb.setCell ⟨w.heap.size+1,5,none⟩ (.int .i64 ((x:Int)*10 - 200))=Wc:=⟨_,rfl⟩
  rw[hWc] at OZ OIc FSc FTc;have hfl:Fl aeR 1 Wc (TS gX w.heap.size Wc) [.slice As s.length cs,.slice At t.length ct] [s,t]:=(Fl.one (R:=aeR) ⟨As,cs,rfl,FSc⟩ rfl).append (Fl.one (R:=aeR) ⟨At,ct,rfl,FTc⟩ rfl);have hr:afa G 6 ⟨[],[s,t],[],[],[],(x:Int)*10 - 200⟩:=afa.mk' (.nil _ _) (((aeZ.one HS.out).app (aeZ.one HT.out)).mono (by omega)) (.nil _ _) (by simp) (by simp) (show N9 ((x:Int)*10 - 200) from by unfold N9;omega) (fun h=>absurd h (by decide)) (fun _=>rfl) (fun _=>rfl) (fun h=>absurd rfl h);have hfin:=iY (G:=G) (kind:=6) (r:=⟨[],[s,t],[],[],[],(x:Int)*10 - 200⟩) (A0:=none) (A1:=A5) (A2:=none) (A3:=none) (A4:=none) (c0:=0) (c1:=c5) (c2:=0) (c3:=0) (c4:=0) OZ hmw hr (show I64 ((x:Int)*10 - 200) from by unfold I64;omega) Sl.nil (cZ OIc hfl (by decide) (by omega) (by omega)) Sl.nil Sl.nil Sl.nil;rw[<-hWc] at hfin;exact bodyPost_ret (dE hfin.1 rfl rfl) rfl hfin.2
end
section
abbrev fE:TypeId:=57
abbrev pK:TypeId:=66
abbrev pq:TypeId:=68
abbrev jZ:TypeId:=70
abbrev Dj:TypeId:=141
def Md (x:Part):List Value:=[.int .i64 x.aeT,.int .i64 x.x,.int .i64 x.y]
def Bz (l:List Part):List Value:=l.flatMap Md
theorem Rx (w:World)(S:Bs)(l:List Part)(h:∀x∈l,I64 x.aeT/\I64 x.x/\I64 x.y):Fl afg 3 w S (Bz l) l:=oW w S Md l (fun _ _=>rfl) (fun x hx=>⟨rfl,h x hx⟩)
def NF (x:ae5):List Value:=[.int .i64 x.kind,.int .i64 x.cls,.int .i64 x.x,.int .i64 x.y]
def BZ (l:List ae5):List Value:=l.flatMap NF
theorem Su (w:World)(S:Bs)(l:List ae5)(h:∀x∈l,I64 x.kind/\I64 x.cls/\I64 x.x/\I64 x.y):Fl ae6 4 w S (BZ l) l:=oW w S NF l (fun _ _=>rfl) (fun x hx=>⟨rfl,h x hx⟩)
def KY (x:Delta):List Value:=[.int .i64 x.region,.int .i64 x.point,.int .i64 x.x,.int .i64 x.y]
def Bi (l:List Delta):List Value:=l.flatMap KY
theorem SB (w:World)(S:Bs)(l:List Delta)(h:∀x∈l,I64 x.region/\I64 x.point/\I64 x.x/\I64 x.y):Fl afc 4 w S (Bi l) l:=oW w S KY l (fun _ _=>rfl) (fun x hx=>⟨rfl,h x hx⟩)
structure GV (w:World)(m gb:Nat)(kb:Nat)(K:Option (Array Value))(fs:Nat->Value)(lp:Int)(cs:Array Value)(p:List Pt)(A3:Option Addr)(es:List Int)(A4:Option Addr)(pa:List Part)(A5:Option Addr)(c5:Nat)(an:List ae5)(A6:Option Addr)(c6:Nat)(de:List Delta)(A7:Option Addr)(c7:Nat)(wr:World):Prop where
 mkr:Mk wr m fs lp
 var:Bk wr gb fE cs
 pts:Sl PtR 3 wr (TS [uH,aF] w.heap.size wr) A3 p
 ends:Sl aeQ 1 wr (TS [uH,aF] w.heap.size wr) A4 es
 pas:wr.ownsRow w.heap.size pK 3 (.slice A5 pa.length c5) pa.length (Bz pa)
 ans:wr.ownsRow w.heap.size pq 4 (.slice A6 an.length c6) an.length (BZ an)
 des:wr.ownsRow w.heap.size jZ 4 (.slice A7 de.length c7) de.length (Bi de)
 mv:Mv m w wr
 kin:∀c,K=some c->Bk wr kb Dj c
section
variable {w:World} {m gb kb:Nat} {K:Option (Array Value)} {fs:Nat->Value} {lp:Int} {cs:Array Value} {p:List Pt} {A3:Option Addr} {es:List Int} {A4:Option Addr} {pa:List Part} {A5:Option Addr} {c5:Nat} {an:List ae5} {A6:Option Addr} {c6:Nat} {de:List Delta} {A7:Option Addr} {c7:Nat} {wr w2:World}
theorem GV.next (h:GV w m gb kb K fs lp cs p A3 es A4 pa A5 c5 an A6 c6 de A7 c7 wr){fs2:Nat->Value}{lp2:Int}(hm:Mk w2 m fs2 lp2)(hv:Mv m wr w2):GV w m gb kb K fs2 lp2 cs p A3 es A4 pa A5 c5 an A6 c6 de A7 c7 w2:=by have s:=Sp.next h.mkr hv;exact⟨hm,s.bk h.var (by decide),s.sl PtR.ok (by decide) h.pts,s.sl aeQ.ok (by decide) h.ends,s.own h.pas (by decide),s.own h.ans (by decide),s.own h.des (by decide),eu h.mv hv,fun c hc=>s.bk (h.kin c hc) (by decide)⟩
theorem GV.below (h:GV w m gb kb K fs lp cs p A3 es A4 pa A5 c5 an A6 c6 de A7 c7 wr)(hb:Below wr.heap.size wr w2):GV w m gb kb K fs lp cs p A3 es A4 pa A5 c5 an A6 c6 de A7 c7 w2:=by have s:Sp m kw wr w2:=Sp.below hb;exact⟨h.mkr.below hb,s.bk h.var (by decide),s.sl PtR.ok (by decide) h.pts,s.sl aeQ.ok (by decide) h.ends,s.own h.pas (by decide),s.own h.ans (by decide),s.own h.des (by decide),iW h.mv hb,fun c hc=>s.bk (h.kin c hc) (by decide)⟩
theorem GV.drew (h:GV w m gb kb K fs lp cs p A3 es A4 pa A5 c5 an A6 c6 de A7 c7 wr):GV w m gb kb K fs lp cs p A3 es A4 pa A5 c5 an A6 c6 de A7 c7 wr.drew:=h.below (agE _ _).drew
theorem GV.put (h:GV w m gb kb K fs lp cs p A3 es A4 pa A5 c5 an A6 c6 de A7 c7 wr)(hmw:m<w.heap.size)(hg:w.heap.size<=gb)(j:Nat)(u:Value):GV w m gb kb K fs lp (cs.setIfInBounds j u) p A3 es A4 pa A5 c5 an A6 c6 de A7 c7 (wr.setCell ⟨gb,j,none⟩ u):=by have s:Sp m fE wr (wr.setCell ⟨gb,j,none⟩ u):=Sp.set h.var (by omega) j u;exact⟨s.mk h.mkr (by decide),h.var.set j u,s.sl PtR.ok (by decide) h.pts,s.sl aeQ.ok (by decide) h.ends,s.own h.pas (by decide),s.own h.ans (by decide),s.own h.des (by decide),qC h.mv hg _ _,fun c hc=>s.bk (h.kin c hc) (by decide)⟩
theorem GV.agC (h:GV w m gb kb K fs lp cs p A3 es A4 pa A5 c5 an A6 c6 de A7 c7 wr){p':List Pt}{B3:Option Addr}{es':List Int}{B4:Option Addr}{base:Nat}(hb:w.heap.size<=base)(h1:Sl PtR 3 wr (TS [uH,aF] base wr) B3 p')(h2:Sl aeQ 1 wr (TS [uH,aF] base wr) B4 es'):GV w m gb kb K fs lp cs p' B3 es' B4 pa A5 c5 an A6 c6 de A7 c7 wr:=⟨h.mkr,h.var,h1.ts PtR.ok (fun t h=>h) hb,h2.ts aeQ.ok (fun t h=>h) hb,h.pas,h.ans,h.des,h.mv,h.kin⟩
theorem GV.pairs (h:GV w m gb kb K fs lp cs p A3 es A4 pa A5 c5 an A6 c6 de A7 c7 wr){kb':Nat}{c:Array Value}(hb:Bk wr kb' Dj c):GV w m gb kb' (some c) fs lp cs p A3 es A4 pa A5 c5 an A6 c6 de A7 c7 wr:=⟨h.mkr,h.var,h.pts,h.ends,h.pas,h.ans,h.des,h.mv,fun c' hc=>by injection hc with hc;rw[<-hc];exact hb⟩
theorem GV.box (h:GV w m gb kb K fs lp cs p A3 es A4 pa A5 c5 an A6 c6 de A7 c7 wr)(hmw:m<w.heap.size){db:Nat}{c:Array Value}(hb:Bk wr db jZ c)(UB:∀x,(Value.slice A7 de.length c7).ownBlock=some x->x<db)(hlo:w.heap.size<=db)(j:Nat)(u:Value):GV w m gb kb K fs lp cs p A3 es A4 pa A5 c5 an A6 c6 de A7 c7 (wr.setCell ⟨db,j,none⟩ u):=by
 have s:Sp m jZ wr (wr.setCell ⟨db,j,none⟩ u):=Sp.set hb (by omega) j u;have hg:wr.grownBy (wr.setCell ⟨db,j,none⟩ u) (some db):=bU (World.grownBy.refl _ _) (.inl rfl) u;exact⟨s.mk h.mkr (by decide),s.bk h.var (by decide),s.sl PtR.ok (by decide) h.pts,s.sl aeQ.ok (by decide) h.ends,s.own h.pas (by decide),s.own h.ans (by decide),h.des.kept hg (by
  cases hx:(Value.slice A7 de.length c7).ownBlock with
  |none=>exact .inl rfl
  |some x=>exact .inr (fun e=>by injection e with e;have:=UB x hx;omega)),qC h.mv hlo _ _,fun c hc=>s.bk (h.kin c hc) (by decide)⟩
theorem GV.agi (h:GV w m gb kb K fs lp cs p A3 es A4 pa A5 c5 an A6 c6 de A7 c7 wr)(hmw:m<w.heap.size)(hg:w.heap.size<=gb){n:Nat}(hn:pa.length=n)(hc:cs[5]? =some (.slice A5 n c5))(hl:n<=1000)(v1 v2 v3:Int):
  ∃B d w9,(Builtin.append_ #[52,52] 52 #[.slice A5 n c5,.slice (some ⟨wr.heap.size,0,none⟩) 1 1]).run Tryd.prog (wr.alloc (.cells #[.int .i64 v1,.int .i64 v2,.int .i64 v3] pK))= .ok (.slice B (n+1) d) w9/\
   w9.cell? ⟨gb,5,none⟩=some (.slice A5 n c5)/\w9.frozen? ⟨gb,5,none⟩=false/\gb<w9.heap.size/\(∀c,K=some c->Bk w9 kb Dj c)/\GV w m gb kb K fs lp (cs.setIfInBounds 5 (.slice B (n+1) d)) p A3 es A4 (pa++[⟨v1,v2,v3⟩]) B d an A6 c6 de A7 c7 (w9.setCell ⟨gb,5,none⟩ (.slice B (n+1) d)):=by
 subst hn;obtain⟨B,d,w9,hrun,dG,dA,rE⟩:=bQ Gh 52 wr w.heap.size _ c5 A5 _ #[.int .i64 v1,.int .i64 v2,.int .i64 v3] rfl h.pas (by simp[Value.oneCell']) (by omega) h.mv.size;have s:Sp m pK wr w9:=Sp.push h.pas (by omega) dA;have v9:=s.bk h.var (by decide);have hn:(pa++[(⟨v1,v2,v3⟩:Part)]).length=pa.length+1:=by simp
 have ho:w9.ownsRow w.heap.size pK 3 (.slice B (pa++[(⟨v1,v2,v3⟩:Part)]).length d) (pa++[(⟨v1,v2,v3⟩:Part)]).length (Bz (pa++[(⟨v1,v2,v3⟩:Part)])):=by rw[hn];simpa [Bz,Md] using dG
 have k:GV w m gb kb K fs lp cs p A3 es A4 (pa++[(⟨v1,v2,v3⟩:Part)]) B d an A6 c6 de A7 c7 w9:=⟨s.mk h.mkr (by decide),v9,s.sl PtR.ok (by decide) h.pts,s.sl aeQ.ok (by decide) h.ends,ho,s.own h.ans (by decide),s.own h.des (by decide),jl h.mv h.pas (ai _) dA,fun c hc=>s.bk (h.kin c hc) (by decide)⟩
 exact⟨B,d,w9,hrun,by rw[v9.cell,hc],v9.frozen 5,v9.lt,k.kin,k.put hmw hg 5 _⟩
theorem GV.agh (h:GV w m gb kb K fs lp cs p A3 es A4 pa A5 c5 an A6 c6 de A7 c7 wr)(hmw:m<w.heap.size)(hg:w.heap.size<=gb){n:Nat}(hn:an.length=n)(hc:cs[6]? =some (.slice A6 n c6))(hl:n<=1000)(v1 v2 v3 v4:Int):
  ∃B d w9,(Builtin.append_ #[53,53] 53 #[.slice A6 n c6,.slice (some ⟨wr.heap.size,0,none⟩) 1 1]).run Tryd.prog (wr.alloc (.cells #[.int .i64 v1,.int .i64 v2,.int .i64 v3,.int .i64 v4] pq))= .ok (.slice B (n+1) d) w9/\
   w9.cell? ⟨gb,6,none⟩=some (.slice A6 n c6)/\w9.frozen? ⟨gb,6,none⟩=false/\gb<w9.heap.size/\(∀c,K=some c->Bk w9 kb Dj c)/\GV w m gb kb K fs lp (cs.setIfInBounds 6 (.slice B (n+1) d)) p A3 es A4 pa A5 c5 (an++[⟨v1,v2,v3,v4⟩]) B d de A7 c7 (w9.setCell ⟨gb,6,none⟩ (.slice B (n+1) d)):=by
 subst hn;obtain⟨B,d,w9,hrun,dG,dA,rE⟩:=bQ Hm 53 wr w.heap.size _ c6 A6 _ #[.int .i64 v1,.int .i64 v2,.int .i64 v3,.int .i64 v4] rfl h.ans (by simp[Value.oneCell']) (by omega) h.mv.size;have s:Sp m pq wr w9:=Sp.push h.ans (by omega) dA;have v9:=s.bk h.var (by decide);have hn:(an++[(⟨v1,v2,v3,v4⟩:ae5)]).length=an.length+1:=by simp
 have ho:w9.ownsRow w.heap.size pq 4 (.slice B (an++[(⟨v1,v2,v3,v4⟩:ae5)]).length d) (an++[(⟨v1,v2,v3,v4⟩:ae5)]).length (BZ (an++[(⟨v1,v2,v3,v4⟩:ae5)])):=by rw[hn];simpa [BZ,NF] using dG
 have k:GV w m gb kb K fs lp cs p A3 es A4 pa A5 c5 (an++[(⟨v1,v2,v3,v4⟩:ae5)]) B d de A7 c7 w9:=⟨s.mk h.mkr (by decide),v9,s.sl PtR.ok (by decide) h.pts,s.sl aeQ.ok (by decide) h.ends,s.own h.pas (by decide),ho,s.own h.des (by decide),jl h.mv h.ans (ai _) dA,fun c hc=>s.bk (h.kin c hc) (by decide)⟩
 exact⟨B,d,w9,hrun,by rw[v9.cell,hc],v9.frozen 6,v9.lt,k.kin,k.put hmw hg 6 _⟩
theorem GV.af1 (h:GV w m gb kb K fs lp cs p A3 es A4 pa A5 c5 an A6 c6 de A7 c7 wr)(hmw:m<w.heap.size)(hg:w.heap.size<=gb){n:Nat}(hn:de.length=n)(hc:cs[7]? =some (.slice A7 n c7))(hl:n<=1000)(v1 v2 v3 v4:Int):
  ∃B d w9,(Builtin.append_ #[54,54] 54 #[.slice A7 n c7,.slice (some ⟨wr.heap.size,0,none⟩) 1 1]).run Tryd.prog (wr.alloc (.cells #[.int .i64 v1,.int .i64 v2,.int .i64 v3,.int .i64 v4] jZ))= .ok (.slice B (n+1) d) w9/\
   w9.cell? ⟨gb,7,none⟩=some (.slice A7 n c7)/\w9.frozen? ⟨gb,7,none⟩=false/\gb<w9.heap.size/\(∀c,K=some c->Bk w9 kb Dj c)/\GV w m gb kb K fs lp (cs.setIfInBounds 7 (.slice B (n+1) d)) p A3 es A4 pa A5 c5 an A6 c6 (de++[⟨v1,v2,v3,v4⟩]) B d (w9.setCell ⟨gb,7,none⟩ (.slice B (n+1) d)):=by
 subst hn;obtain⟨B,d,w9,hrun,dG,dA,rE⟩:=bQ CG 54 wr w.heap.size _ c7 A7 _ #[.int .i64 v1,.int .i64 v2,.int .i64 v3,.int .i64 v4] rfl h.des (by simp[Value.oneCell']) (by omega) h.mv.size;have s:Sp m jZ wr w9:=Sp.push h.des (by omega) dA;have v9:=s.bk h.var (by decide);have hn:(de++[(⟨v1,v2,v3,v4⟩:Delta)]).length=de.length+1:=by simp
 have ho:w9.ownsRow w.heap.size jZ 4 (.slice B (de++[(⟨v1,v2,v3,v4⟩:Delta)]).length d) (de++[(⟨v1,v2,v3,v4⟩:Delta)]).length (Bi (de++[(⟨v1,v2,v3,v4⟩:Delta)])):=by rw[hn];simpa [Bi,KY] using dG
 have k:GV w m gb kb K fs lp cs p A3 es A4 pa A5 c5 an A6 c6 (de++[(⟨v1,v2,v3,v4⟩:Delta)]) B d w9:=⟨s.mk h.mkr (by decide),v9,s.sl PtR.ok (by decide) h.pts,s.sl aeQ.ok (by decide) h.ends,s.own h.pas (by decide),s.own h.ans (by decide),ho,jl h.mv h.des (ai _) dA,fun c hc=>s.bk (h.kin c hc) (by decide)⟩
 exact⟨B,d,w9,hrun,by rw[v9.cell,hc],v9.frozen 7,v9.lt,k.kin,k.put hmw hg 7 _⟩
end
theorem afB.make {n:Nat}{adv:Int}{mk:Bool}{k:Nat}{p:List Pt}{es:List Int}{pa:List Part}{an:List ae5}{de:List Delta}{hi:List Ins}(hn:n<10)(ha:N9 adv)(ho:afy k p es)(hk:k<=2)(hp:(∀x∈pa,In 2 x.aeT/\N9 x.x/\N9 x.y)/\pa.length<=1)
  (hA:(∀a∈an,1<=a.kind/\a.kind<=4/\N9 a.cls/\N9 a.x/\N9 a.y)/\an.length<=5) (hd:(∀d∈de,N9 d.region/\N9 d.point/\N9 d.x/\N9 d.y)/\de.length<=40) (hh:jr hi/\hi.length<=60):afB n ⟨jS n,adv,mk,p,es,pa,an,de,hi⟩:=
 ⟨rfl,{name:=ZE ⟨n,hn⟩,adv:=ha,pts:=ho.pts,ends:=ho.ends,parts:=hp.1,anch:=hA.1,ae3:=hd.1,hint:=hh.1},{pts:=by have:=ho.few;show p.length<=12;omega,ends:=by have:=ho.few;show es.length<=2;omega,parts:=hp.2,anch:=hA.2,ae3:=hd.2,hint:=hh.2}⟩
end
end Go.Proofs.YtkijckccfookeaaDoor
