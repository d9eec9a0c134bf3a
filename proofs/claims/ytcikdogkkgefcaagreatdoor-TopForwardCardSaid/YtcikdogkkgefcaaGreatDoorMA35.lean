/- world.note; words of write. Terms grow, and by how many. world.write. world.read. world.forge. -/
import Derived.Test.YtcikdogkkgefcaaGreatDoorMA34
namespace Go.Proofs.YtcikdogkkgefcaaGreatDoor
set_option maxRecDepth 8000
set_option maxHeartbeats 16000000
set_option linter.unusedVariables false
set_option linter.unusedSimpArgs false
open Go Go.RowKit
abbrev evOf (x:PtH):Evt:=⟨x.at_,x.x.dev,x.x.s.note⟩
theorem zST (x:Evt):∀u∈evtL x,one u=true:=by
 intro u hu;simp only[evtL,ntL,List.mem_cons,List.not_mem_nil,or_false]at hu;rcases hu with rfl|rfl|rfl|rfl|rfl|rfl|rfl|rfl|rfl|rfl|rfl|rfl|rfl<;>rfl
theorem zKR {lim:Nat}{L:List Nd}{s:Ss}{e pl wa wc:Int}(h:(zAE lim L s e pl wa wc).2.2.2≠0):(zAE lim L s e pl wa wc).2.1=s:=by
 unfold zAE at h ⊢;split
 · rfl
 · rename_i h1
   rw[if_neg h1]at h;unfold zBR at h ⊢;split
   · rfl
   · rename_i h2
     rw[if_neg h2]at h;split
     · rfl
     · rename_i h3
       rw[if_neg h3]at h;exact absurd rfl h
theorem zF7 {lim:Nat}{L:List Nd}{s:Ss}{e pl wa wc:Int}(ho:ShOk s.h):(zAE lim L s e pl wa wc).2.2.1.length≤13:=by
 have hln:=zIa (lim:=lim) (L:=L) (e:=e) (x:=pl) ho;have h1:(zAL lim L s e pl).2.2.1.length≤13:=by
  unfold zAL;split
  · simp
  · exact hln
 unfold zAE;split
 · simp
 · unfold zBR
   split
   · simp
   · split
     · simp
     · exact h1
noncomputable def lhk (L:List Nd)(q:List Int × (Int→Bool))(x:Int):List Int × (Int→Bool):=if has L x=true then(q.1++[x],cl L (ins q.2 x)) else q
theorem zGz:∀(l:List Int) (W:Wd),zAz W l = { W with heard:=(l.foldl (lhk W.L) (W.heard,W.K)).1,K:=(l.foldl (lhk W.L) (W.heard,W.K)).2 }
 | [],W=>rfl
 | x::l,W=>by
   have h1:(zAd W x).1 = { W with heard:=(lhk W.L (W.heard,W.K) x).1,K:=(lhk W.L (W.heard,W.K) x).2 }:=by
    unfold zAd lhk;split<;>rfl
   show zAz (zAd W x).1 l=_;rw[zGz l,h1];rfl
theorem zKt {lim:Nat}{L:List Nd}(g:Good lim L){q:List Int × (Int→Bool)}{x:Int}(h:∀y,q.2 y=true→has L y=true):∀y,(lhk L q x).2 y=true→has L y=true:=by
 intro y hy;unfold lhk at hy;split at hy
 · rename_i hx
   refine zUd g (fun z hz=>?_) hy;rcases zCo.1 hz with h1|rfl
   · exact h z h1
   · exact hx
 · exact h y hy
theorem zKs {L:List Nd}{q:List Int × (Int→Bool)}{x:Int}:(lhk L q x).1.length≤q.1.length+1:=by
 unfold lhk;split<;>simp
section
variable {we w:World}{ρ:List (Nat × Obj)}{σ F:List HP}{wb p:Nat}{f:Int}{H:Hd}{L:List Nd}{ps:List PtH}{ms:List (List Int × Value)}{o:WOp}{i:Nat}{x:PtH}{vp vm:Value}{heard:List Int}{K:Int→Bool}{evs:List Evt}
theorem zQx {A1 A2 A3:HP}{F1 F2 F3:List HP}(h:St we ρ σ w)(t1:Take A1 σ F1)(t2:Take A2 F1 F2)(t3:Take A3 F2 F3):St we ρ (A1::A2::A3::F3) w:=by
 have h1:=(h.take t1).take (.tail t2);have h2:=h1.take (.tail (.tail t3));exact h2.pk
theorem zHw (hx:ps[i]? = some x)(hel:evs.length≤10000)(hS:St we ρ (Row wb (wdL H f) 68::Each (ptI H.p) ps::Vec 33 13 H.ve evs.length (evs.flatMap evtL)::F) w) :
 Cl Tryz.prog 91 [pP wb,.agg (ptyL x).toArray] w fun v w'=>v = .tuple #[]∧∃ve',
  St we ρ (Row wb (wdL { H with ve:=ve' } f) 68::Each (ptI H.p) ps::Vec 33 13 ve' (evs++[evOf x]).length ((evs++[evOf x]).flatMap evtL)::F) w':=by
 obtain⟨Hp,Hkb,Hstb,Hds,Hps,Hms,Hvp,Hvm,Hve⟩:=H;simp only at hS ⊢;obtain⟨pk,cape,rfl⟩:=zAG (hS.take (A:=Vec 33 13 Hve evs.length (evs.flatMap evtL)) An);have kN:∀{F w},St we ρ (Each (ptI Hp) ps::F) w→_:=fun hS=>zWO hx hS
 have hone:=zST (evOf x);refine Run.calls2 (n:=21) Tryz.func91 rfl rfl rfl ?_;repeat' first|apply Qs|apply Qr|apply Qn|(refine Qx ?_;clear hS;intro b w1 hS)
 refine(Run.regionH_cut (fun z:Option Addr × Nat=>Row wb (wdL ⟨Hp,Hkb,Hstb,Hds,Hps,Hms,Hvp,Hvm,.slice z.1 (evs.length+1) z.2⟩ f) 68::Vec 33 13 (.slice z.1 (evs.length+1) z.2) (evs.length+1) (evs.flatMap evtL++evtL (evOf x))::Row b (ptyL x) 79::Each (ptI Hp) ps::F) (fun _=>[])
  (show St we ρ (Row wb (wdL ⟨Hp,Hkb,Hstb,Hds,Hps,Hms,Hvp,Hvm,.slice pk evs.length cape⟩ f) 68::Vec 33 13 (.slice pk evs.length cape) evs.length (evs.flatMap evtL)::Row b (ptyL x) 79::Each (ptI Hp) ps::F) _ from hS.pk) (.cons _ (.cons _ (.cons_cons _ (.cons _ (List.Sublist.refl _))))) (by rfl) (by rfl) (by rfl) ?_ ?_)
 · clear hS
   intro w1 hS;refine RH.relist (listed':=bm 18 0) (by kernel_rfl) ?_;repeat' first|refine Yt 0 0 ?_|refine Yt 1 1 ?_|refine Yt 3 2 ?_|refine Yl 7 3 ?_|refine Yl 15 5 ?_|refine Yl 47 6 ?_|refine Yl 111 7 ?_|refine Yl 239 8 ?_|refine Yl 495 9 ?_|refine Yl 1007 10 ?_|refine Yt 4095 12 ?_|refine Yt 32767 15 ?_|refine Yl 65535 16 ?_|refine Yt 4079 12 ?_|refine Om (Xh ?_)|(refine Ov 16 (kN hS.tk) ?_;clear hS;intro w1 hS;refine Xh ?_)|(refine Og ?_;clear hS;intro b w1 hS;refine Xh ?_)|(apply OP.append (size:=13) (bytes:=104) (k:=1) (news:=evtL (evOf x)) hS;rfl;rfl;rfl;rfl;rfl;rfl;rfl;rfl;exact(by omega);exact An;(exact Rd.any);rfl;rfl;exact hone;(exact(by unfold maxLen;omega));(exact(by omega));rfl;clear hS;intro v2 w1 hS;obtain⟨pk2,capk2,rfl⟩:=zAG hS;refine Xh ?_)|(refine Od ?_;clear hS;intro w1 hS;refine Xh ?_)|refine Jo ?_|refine Zb 2031 4 11 ?_ ?_|refine Za 2047 11 ?_|refine Za 8191 13 ?_|refine Za 16383 14 ?_|refine Za 131071 17 ?_|refine Zb 8175 4 13 ?_ ?_|refine Za 16367 4 ?_|(refine Yd 262143 ?_;exact⟨(pk2,capk2),(by exact Sb),hS.pk⟩)
 clear hS;rintro⟨pk2,capk2⟩ w1 hS;refine Run.done Tryz.func91 rfl .nil ?_;refine⟨rfl,.slice pk2 (evs.length+1) capk2,?_⟩;rw[List.length_append,List.flatMap_append,List.flatMap_cons,List.flatMap_nil,List.append_nil];exact hS.pk
end
def Gr (n:Nat)(L L':List Nd):Prop:=∃M,L'=L++M∧M.length≤n
theorem Gr.refl (n:Nat)(L:List Nd):Gr n L L:=⟨[],by simp,by simp⟩
theorem Gr.mono {n m:Nat}{L L':List Nd}(h:Gr n L L')(hm:n≤m):Gr m L L':=by obtain⟨M,rfl,h2⟩:=h;exact⟨M,rfl,by omega⟩
theorem Gr.trans {a b n:Nat}{L L1 L2:List Nd}(h:Gr a L L1)(k:Gr b L1 L2)(hn:a+b≤n):Gr n L L2:=by
 obtain⟨M,rfl,h2⟩:=h;obtain⟨N,rfl,k2⟩:=k;exact⟨M++N,by simp,by simp;omega⟩
theorem Gr.has {n:Nat}{L L':List Nd}(h:Gr n L L'){x:Int}(hx:has L x=true):has L' x=true:=by obtain⟨M,rfl,h2⟩:=h;exact zBo hx
theorem Gr.nd {n:Nat}{L L':List Nd}(h:Gr n L L'){x:Int}(hx:Go.Proofs.YtcikdogkkgefcaaGreatDoor.has L x=true):nd L' x=nd L x:=by
 obtain⟨M,rfl,h2⟩:=h;obtain⟨i,rfl,hi⟩:=zEq hx;simp[Go.Proofs.YtcikdogkkgefcaaGreatDoor.nd,List.getD_eq_getElem?_getD,List.getElem?_append_left hi]
theorem Gr.len {n:Nat}{L L':List Nd}(h:Gr n L L'):L.length≤L'.length∧L'.length≤L.length+n:=by obtain⟨M,rfl,h2⟩:=h;simp;omega
theorem zB5 {lim:Nat}{L:List Nd}(n:Nd):Gr 1 L (mk lim L n).1:=by
 unfold mk;split
 · split
   · exact Gr.refl _ _
   · split
     · exact Gr.refl _ _
     · exact⟨[n],rfl,by simp⟩
 · exact Gr.refl _ _
section
variable {lim:Nat}{L:List Nd}{s:Sy}{h:Sh}{ck x q e who t:Int}{c:Cph}
theorem zHn {x y:Int}:Gr 1 L (share lim L x y).1:=by
 unfold share;split
 · split
   · exact zB5 _
   · split<;>exact zB5 _
 · exact Gr.refl _ _
theorem zCW:Gr 1 L (zAW lim L s x).1:=by
 unfold zAW;split
 · exact zB5 _
 · exact Gr.refl _ _
theorem zGW:Gr 2 L (zAj lim L ck x).1:=by
 unfold zAj;split
 · split
   · exact(zB5 _).trans (zB5 _) (by omega)
   · exact(zB5 _).mono (by omega)
 · exact Gr.refl _ _
theorem zOo:Gr 3 L (zBb lim L ck x).1:=by
 unfold zBb;split
 · split
   · exact zGW.trans (zB5 _) (by omega)
   · exact zGW.mono (by omega)
 · exact zGW.mono (by omega)
theorem zIj:Gr 2 L (zBK lim L s x).1:=by unfold zBK;split<;>exact zGW
theorem zP7:Gr 4 L (zBG lim L s x).1:=by
 unfold zBG;split
 · exact zOo.trans zCW (by omega)
 · exact zOo.mono (by omega)
theorem zKy {ad:Int}:Gr 1 L (zBE lim L c ad q).1:=by
 unfold zBE;repeat' split
 all_goals first|exact Gr.refl _ _|exact zB5 _
theorem zSE:Gr 1 L (zBm lim L c).1:=by
 unfold zBm;repeat' split
 all_goals first|exact Gr.refl _ _|exact zB5 _
theorem zNs {told:Int}:Gr 1 L (zDy lim L s c x told).1:=by unfold zDy;split<;>exact zCW
theorem zP4:Gr 2 L (zAy lim L s q).1:=by
 unfold zAy;split
 · exact zKy.trans zNs (by omega)
 · exact zKy.mono (by omega)
theorem zP5:Gr 1 L (zBB lim L s x).1:=by
 unfold zBB;split
 · exact zNs
 · exact Gr.refl _ _
theorem zTx:Gr 2 L (zBx lim L s).1:=by unfold zBx;split<;>exact zGW
theorem zEr:Gr 1 L (zAk lim L h who t).1:=by
 unfold zAk;split
 · exact Gr.refl _ _
 · exact zB5 _
theorem zGU {eph:Bool}:Gr 3 L (zA3 lim L h x eph).1:=by
 unfold zA3;split
 · exact zCW.mono (by omega)
 · split
   · exact zCW.trans zIj (by omega)
   · exact zCW.mono (by omega)
theorem zSB:Gr 4 L (zB9 lim L h who t).1:=by
 unfold zB9;split
 · exact zEr.mono (by omega)
 · exact zEr.trans zGU (by omega)
theorem zGV:Gr 4 L (zAR lim L h t).1:=by
 unfold zAR;repeat' split
 all_goals first|exact zP7|exact zHn.mono (by omega)|exact zHn.trans zIj (by omega)
theorem zEO:Gr 2 L (zAU lim L h x).1:=by unfold zAU;split<;>exact zP4
theorem zFi:Gr 1 L (zAO lim L h x).1:=by unfold zAO;split<;>exact zP5
theorem zSD:Gr 4 L (zA9 lim L h t).1:=by
 unfold zA9;repeat' split
 all_goals first|exact Gr.refl _ _|exact zEr.mono (by omega)|exact zEr.trans zEO (by omega)|exact zEr.trans zGU (by omega)
theorem zJz {part:Int}:Gr 3 L (zAe lim L h t part).1:=by
 unfold zAe;split
 · exact zGU
 · exact zFi.mono (by omega)
theorem zBr (e:Int):∀(l:List Int) (L:List Nd) (h:Sh) (m:List Int),Gr (4*l.length) L (zAJ lim e L h m l).1
 | [],L,h,m=>Gr.refl _ _
 | t::l,L,h,m=>by
   unfold zAJ;repeat' split
   all_goals first|exact zGV.mono (by simp;omega)|exact zGV.trans (zBr e l _ _ _) (by simp;omega)|exact zSD.mono (by simp;omega)|exact zSD.trans (zBr e l _ _ _) (by simp;omega)
theorem zCV (msg:List Int):∀(l:List Int) (L:List Nd) (h:Sh) (n:Nat),Gr (4*l.length) L (zAY lim msg L h n l).1
 | [],L,h,n=>Gr.refl _ _
 | t::l,L,h,n=>by
   unfold zAY;repeat' split
   all_goals first|exact zGV.mono (by simp;omega)|exact zGV.trans (zCV msg l _ _ _) (by simp;omega)|exact zJz.mono (by simp;omega)|exact zJz.trans (zCV msg l _ _ _) (by simp;omega)
theorem zOL (ho:ShOk h):(zAq h).length≤12:=by
 by_cases hl:h.at_<h.p.msgs.length
 · obtain⟨m,h1,h2,h3,_⟩:=ho.msg hl
   rw[h2];exact h3
 · unfold zAq
   rw[List.getElem?_eq_none (by omega)];simp
theorem zP6 (ho:ShOk h):Gr 50 L (zAK lim L h e x).1:=by
 have h1:=zOL ho;unfold zAK;dsimp only;repeat' split
 all_goals first|exact Gr.refl _ _|(refine(zBr e _ _ _ _).mono ?_;omega)|(refine(zBr e _ _ _ _).trans zEO ?_;omega)
theorem zSC {msg:List Int}(ho:ShOk h):Gr 50 L (zAN lim L h msg).1:=by
 have h1:=zOL ho;unfold zAN;dsimp only;repeat' split
 all_goals first|exact Gr.refl _ _|(refine(zCV msg _ _ _ _).mono ?_;omega)|(refine(zCV msg _ _ _ _).trans zFi ?_;omega)
theorem zP8:Gr 2 L (zBM lim L h).1:=by
 unfold zBM;repeat' split
 all_goals first|exact Gr.refl _ _|exact zTx
theorem zVh:Gr 2 L (zGl lim L h).1:=by unfold zGl;split<;>exact zP8
theorem zSA {t:Tr}:Gr 1 L (zB8 lim L t q).1:=by unfold zB8;split<;>exact zKy
theorem zP3 {t:Tr}{send:Bool}:Gr 1 L (zBV lim L t send).1:=by unfold zBV;cases send<;>simp only[Bool.false_eq_true,if_true,if_false]<;>split<;>exact zSE
theorem zEP {s x:Ss}:Gr 2 L (zAI lim L s x).1:=by
 unfold zAI;split
 · exact Gr.refl _ _
 · exact zVh
theorem zJ0:∀(l:List Int) (L:List Nd) (t:Int),Gr (2*l.length) L (zBj lim L t l).1
 | [],L,t=>Gr.refl _ _
 | c::l,L,t=>by
   have h1:Gr 2 L (zEH lim L t c).1:=by
    unfold zEH;split
    · exact(zB5 _).trans (zB5 _) (by omega)
    · exact(zB5 _).mono (by omega)
   unfold zBj;split
   · exact h1.trans (zJ0 l _ _) (by simp;omega)
   · exact h1.mono (by simp;omega)
theorem zTy {name:ByteArray}{pr:Int}:Gr (2*name.size+1) L (zBX lim L name pr).1:=by
 have h1:=zJ0 (lim:=lim) (zCh name) L 0;have h2:(zCh name).length=name.size:=by simp[zCh]
 rw[h2]at h1;unfold zBX;repeat' split
 · exact Gr.refl _ _
 · exact h1.trans zCW (by omega)
 · exact h1.mono (by omega)
theorem zFD (who:Int):∀(l:List Int) (L:List Nd) (h:Sh),Gr (4*l.length) L (zAl lim who L h l).1
 | [],L,h=>Gr.refl _ _
 | t::l,L,h=>by
   unfold zAl;split
   · exact zSB.trans (zFD who l _ _) (by simp;omega)
   · exact zSB.mono (by simp;omega)
theorem zNr {p:Pat}{role:Int}{k:Ks}{q:List Nd × Sy × Int}:Gr (4*p.pre0.length+4*p.pre1.length) q.1 (zAu lim p role k q).1:=by
 unfold zAu;dsimp only;repeat' split
 all_goals first|exact Gr.refl _ _|(refine(zFD 0 _ _ _).mono ?_;omega)|(refine(zFD 0 _ _ _).trans (zFD 1 _ _ _) ?_;omega)
theorem zDv {d:Dv}{p:Pat}{role peer pr:Int}:Gr 70 L (zAX lim L d p role peer pr).1:=by
 unfold zAX;split
 · exact Gr.refl _ _
 · split
   · exact Gr.refl _ _
   · simp only
     unfold zBY;split
     · exact Gr.refl _ _
     · rename_i hn
       obtain⟨-,-,hr⟩:=zIS (p:=p) (role:=role) (by simpa using hn);have h1:=zAs hr;have h2:=zCN hr;repeat' split
       all_goals first|exact Gr.refl _ _|(refine zTy.trans zNr ?_;omega)
theorem zDD {s:Ss}{pl wa wc:Int}(ho:ShOk s.h):Gr 52 L (zAE lim L s e pl wa wc).1:=by
 unfold zAE;split
 · exact Gr.refl _ _
 · have h1:Gr 50 L (zAL lim L s e pl).1:=by
    unfold zAL;split
    · exact zSA.mono (by omega)
    · exact zP6 ho
   unfold zBR;repeat' split
   all_goals first|exact h1.mono (by omega)|exact h1.trans zEP (by omega)
theorem zFE {s:Ss}{d:Dv}{msg:List Int}{wa wc:Int}(ho:ShOk s.h):Gr 52 L (zAP lim L s d msg wa wc).1:=by
 have h1:Gr 50 L (zAc lim L s d msg).1:=by
  unfold zAc;repeat' split
  all_goals exact zSC ho
 have h2:Gr 52 L (zAr lim L s d msg).1:=by
  unfold zAr;simp only;split
  · exact h1.mono (by omega)
  · exact h1.trans zEP (by omega)
 have h3:Gr 52 L (zAo lim L s d msg).1:=by
  unfold zAo;repeat' split
  all_goals first|exact h2|exact Gr.refl _ _
 unfold zAP;split
 · exact Gr.refl _ _
 · unfold zEB
   split<;>exact h3
theorem zFj {s:Ss}{send:Bool}:Gr 1 L (zAb lim L s send).1:=by
 unfold zAb;repeat' split
 all_goals first|exact Gr.refl _ _|exact zP3
theorem zWY {heard made:List Int}{s:Stp}:Gr 1 L (oneS lim L heard made s).1:=by
 have hi:∀(c:Prop) [Decidable c] (a b:List Nd × Int × Int),Gr 1 L a.1→Gr 1 L b.1→Gr 1 L (if c then a else b).1:=by
  intro c _ a b ha hb;split
  · exact ha
  · exact hb
 unfold oneS;repeat' (first|exact Gr.refl _ _|exact zB5 _|exact zHn|apply hi)
theorem zJy {heard:List Int}:∀(l:List Stp) (L:List Nd) (made:List Int) (i:Nat),Gr l.length L (runS lim heard l L made i).1
 | [],L,made,i=>Gr.refl _ _
 | s::l,L,made,i=>by
   unfold runS;split
   · exact Gr.refl _ _
   · exact zWY.trans (zJy l _ _ _) (by simp;omega)
end
section
variable {we w:World}{ρ:List (Nat × Obj)}{σ F:List HP}{wb p:Nat}{f:Int}{H:Hd}{L:List Nd}{ps:List PtH}{ms:List (List Int × Value)}{o:WOp}{i:Nat}{x:PtH}{vp vm:Value}{heard:List Int}{K:Int→Bool}{evs:List Evt}{devs:List Dv}
def WrTo (ρ':List (Nat × Obj))(ps:List PtH)(ms:List (List Int × Value))(evs:List Evt)(o:WOp)(x:PtH)(ps':List PtH)(ms':List (List Int × Value))(evs':List Evt):Prop :=
 (ps'=ps∧ms'=ms∧evs'=evs) ∨
 ∃L0 e pl m mv,(zAE zAB L0 x.x.s e pl o.wa o.wc).2.2.2=0∧ps'=ps.set o.a.toNat (ptS x (zAE zAB L0 x.x.s e pl o.wa o.wc).2.1)∧ms'=ms++[(m,mv)]∧Sl ρ' intL 1 mv m∧evs'.length=evs.length+1∧ms.length<256∧m.length≤13
theorem zJP {W:Wd}(hW:W=⟨L,heard,K,f,devs,ps.map (·.x),ms.map (·.1),evs⟩)(hx:ps[o.a.toNat]? = some x)(ha:0≤o.a)(hat:x.at_=o.a.toNat)(ho:ShOk x.x.s.h)(hr:ShR ρ x.r x.x.s.h)(hix:0≤x.x.s.index∧x.x.s.index≤100000)
 (hh:∀y,K y=true→has L y=true) (hhl:heard.length≤50000) (hel:evs.length≤10000) (hml:ms.length≤256) (hS:St we ρ (Row wb (wdL H f) 68::zAA H.p zAB L::KN H.kb H.p heard K::Vec 79 4 H.vp ps.length (ps.flatMap ptyL)::Each (ptI H.p) ps::Vec 80 1 H.vm ms.length (ms.flatMap mgL)::Vec 33 13 H.ve evs.length (evs.flatMap evtL)::F) w) :
 Cl Tryz.prog 48 [pP wb,opV o] w fun v w'=>v = .tuple #[pI (zBC W o).2.1,pI (zBC W o).2.2] ∧
  ∃ ρ' ps' ms' vm' ve',Over we ρ ρ'∧WrTo ρ' ps ms evs o x ps' ms' (zBC W o).1.evs∧ps'.map (·.x)=(zBC W o).1.parts∧ms'.map (·.1)=(zBC W o).1.msgs ∧
   St we ρ' (Row wb (wdL { H with vm:=vm',ve:=ve' } (zBC W o).1.fresh) 68::zAA H.p zAB (zBC W o).1.L::KN H.kb H.p (zBC W o).1.heard (zBC W o).1.K::Vec 79 4 H.vp ps.length (ps.flatMap ptyL)::Each (ptI H.p) ps' ::
    Vec 80 1 vm' ms'.length (ms'.flatMap mgL)::Vec 33 13 ve' (zBC W o).1.evs.length ((zBC W o).1.evs.flatMap evtL)::F) w':=by
 obtain⟨g0,-⟩:=zA7 (hS.take (A:=zAA H.p zAB L) (.tail .head));obtain⟨Hp,Hkb,Hstb,Hds,Hps,Hms,Hvp,Hvm,Hve⟩:=H;simp only at hS ⊢;obtain⟨g,capp,cs,rfl,hc4,hc0,hc1,hback,hS⟩:=zGE hx (hS.take (A:=Vec 79 4 Hvp ps.length (ps.flatMap ptyL)) An);obtain⟨pkm,capm,rfl⟩:=zAG (hS.take (A:=Vec 80 1 Hvm ms.length (ms.flatMap mgL)) An);have hlt:=(List.getElem?_eq_some_iff.1 hx).1;have hpart:W.part o.a=x.x:=by
  rw[hW];simp[Wd.part,List.getD_eq_getElem?_getD,hx]
 subst hW;unfold zBC;rw[hpart];unfold zAw;simp only[zJI,List.length_map];by_cases hfull:256≤ms.length
 · rw[if_pos hfull]
   refine Run.calls2 (n:=88) Tryz.func48 rfl rfl rfl ?_;repeat' first|apply Qs|apply Qr|(apply Rs<;>intro hc<;>try exact No)|apply Qn|refine Ql ?_|(refine Qx ?_;clear hS;intro b w1 hS)|refine Qt ?_
   refine Qw Tryz.func48 ?_;exact⟨rfl,ρ,ps,ms,_,_,Over.refl _ _,.inl ⟨rfl,rfl,rfl⟩,rfl,rfl,(hback (hS.take (A:=Row g cs 79) An)).picks (by focus((repeat(first|apply Picks.all|apply Picks.nil|(refine Picks.cons (by repeat(first|apply Take.head|apply Take.tail)) ?_)|apply Picks.drop));done))⟩
 rw[if_neg hfull];have kN1:∀{F w},St we ρ (Row wb (wdL ⟨Hp,Hkb,Hstb,Hds,Hps,Hms,.slice (some ⟨g,0,none⟩) ps.length capp,.slice pkm ms.length capm,Hve⟩ f) 68::zAA Hp zAB L::F) w→_:=fun hS=>zOJ (H:=⟨Hp,Hkb,Hstb,Hds,Hps,Hms,.slice (some ⟨g,0,none⟩) ps.length capp,.slice pkm ms.length capm,Hve⟩) hS
 have hk1:∀y,has L y=true→has (mk zAB L ⟨1,IntKind.u64.wrap (f+1),0,0,0⟩).1 y=true:=fun y h=>(zHk _ h).1
 have g1:=zDd g0 ⟨1,IntKind.u64.wrap (f+1),0,0,0⟩;generalize IntKind.u64.wrap (f+1)=f2 at kN1 hk1 g1;generalize mk zAB L ⟨1,f2,0,0,0⟩=q1 at kN1 hk1 g1;obtain⟨L1,ex,e1⟩:=q1;simp only at kN1 hk1 g1 ⊢;have kN2:∀{F w},St we ρ (Row wb (wdL ⟨Hp,Hkb,Hstb,Hds,Hps,Hms,.slice (some ⟨g,0,none⟩) ps.length capp,.slice pkm ms.length capm,Hve⟩ f2) 68::zAA Hp zAB L1::F) w→_:=fun hS=>zOJ (H:=⟨Hp,Hkb,Hstb,Hds,Hps,Hms,.slice (some ⟨g,0,none⟩) ps.length capp,.slice pkm ms.length capm,Hve⟩) hS
 have hk2:∀y,has L1 y=true→has (mk zAB L1 ⟨1,IntKind.u64.wrap (f2+1),0,0,0⟩).1 y=true:=fun y h=>(zHk _ h).1
 have g2:=zDd g1 ⟨1,IntKind.u64.wrap (f2+1),0,0,0⟩;generalize IntKind.u64.wrap (f2+1)=f3 at kN2 hk2 g2;generalize mk zAB L1 ⟨1,f3,0,0,0⟩=q2 at kN2 hk2 g2;obtain⟨L2,px,e2⟩:=q2;simp only at kN2 hk2 g2 ⊢;have kW:∀{F w},St we ρ (Each (ptI Hp) ps::zAA Hp zAB L2::F) w→_:=fun hS=>zQ9 (e:=ex) (pl:=px) (wa:=o.wa) (wc:=o.wc) hx ho hr hix hS
 have herr := @zKR zAB L2 x.x.s ex px o.wa o.wc;obtain⟨sz,hsz⟩:∃z,zAE zAB L2 x.x.s ex px o.wa o.wc=z:=⟨_,rfl⟩
 have hsz0:=hsz;rw[hsz]at kW herr;simp only[hsz];obtain⟨L3,s3,m,e3⟩:=sz;simp only at kW herr ⊢;refine Run.calls2 (n:=88) Tryz.func48 rfl rfl rfl ?_;repeat' first|apply Qs|apply Qr|(apply Rs<;>intro hc<;>try exact No)|apply Qn|refine Ql ?_|(refine Qx ?_;clear hS;intro b w1 hS)|refine Qf ?_|apply Qk
 refine(Run.regionH_cut (fun z:Nat=>Row z (ptyL x) 79::Row b (wopL o) 57::Row wb (wdL ⟨Hp,Hkb,Hstb,Hds,Hps,Hms,.slice (some ⟨g,0,none⟩) ps.length capp,.slice pkm ms.length capm,Hve⟩ f) 68::Row g cs 79::zAA Hp zAB L::KN Hkb Hp heard K::Each (ptI Hp) ps::Vec 80 1 (.slice pkm ms.length capm) ms.length (ms.flatMap mgL)::Vec 33 13 Hve evs.length (evs.flatMap evtL)::F) (fun z=>[(0,pP wb),(3,pP b),(6,pP z)])
  (show St we ρ (Row b (wopL o) 57::Row wb (wdL ⟨Hp,Hkb,Hstb,Hds,Hps,Hms,.slice (some ⟨g,0,none⟩) ps.length capp,.slice pkm ms.length capm,Hve⟩ f) 68::Row g cs 79::zAA Hp zAB L::KN Hkb Hp heard K::Each (ptI Hp) ps::Vec 80 1 (.slice pkm ms.length capm) ms.length (ms.flatMap mgL)::Vec 33 13 Hve evs.length (evs.flatMap evtL)::F) _ from hS.pk) (List.Sublist.refl _) (by rfl) (by rfl) (by rfl) ?_ ?_)
 · clear hS
   intro w1 hS;refine RH.relist (listed':=bm 10 0) (by kernel_rfl) ?_;repeat' first|refine Yt 0 0 ?_|refine Yt 1 1 ?_|refine Yl 3 2 ?_|refine Yl 7 3 ?_|refine Yl 15 4 ?_|refine Yl 31 5 ?_|(refine Yt 63 6 ?_ (h:=by first|exact Sx|exact Still.any))|refine Yl 127 7 ?_|(refine Oa ?_;clear hS;intro b w1 hS;refine Xh ?_)|(refine Od ?_;clear hS;intro w1 hS;refine Xh ?_)|refine Jo ?_|refine Za 255 8 ?_|refine Za 511 9 ?_|(refine Yd 1023 ?_;exact⟨_,Sb,hS.pk⟩)
 clear hS;intro bx w1 hS;repeat' first|(refine Qc 79 (c:=kN1 hS.tk2) (k':=?_);clear hS kN1;rintro v w1 ⟨rfl,hS⟩)|(refine Qv 79 (kN2 hS.tk2) ?_;clear hS;intro w1 hS)|apply Qs|apply Qr|(apply Rs<;>intro hc<;>try(first|(exfalso;omega)|exact absurd rfl hc))|apply Qn|refine Ql ?_|apply Qk|(refine Qf ?_)|(refine Qt ?_)|(refine Qc 90 (c:=kW hS.tk2) (k':=?_);clear hS;rintro v w1 ⟨mv,rfl,hS⟩;obtain⟨ρ2,o2,sl2,hT⟩:=zAH zAZ hS;clear hS;obtain⟨pm,cm,rfl,cm1,cm2,-⟩:=sl2.val;have hS:=hT;clear hT)
 all_goals first
  | (have hc:e1≠0:=by assumption
     rw[if_pos hc];refine Qw Tryz.func48 ?_;exact⟨rfl,ρ,ps,ms,_,_,Over.refl _ _,.inl ⟨rfl,rfl,rfl⟩,rfl,rfl,(hback (hS.take (A:=Row g cs 79) An)).picks (by focus((repeat(first|apply Picks.all|apply Picks.nil|(refine Picks.cons (by repeat(first|apply Take.head|apply Take.tail)) ?_)|apply Picks.drop));done))⟩)
  | (have hc:e2≠0:=by assumption
     have hc1:¬e1≠0:=by assumption
     rw[if_neg hc1,if_pos hc];refine Qw Tryz.func48 ?_;exact⟨rfl,ρ,ps,ms,_,_,Over.refl _ _,.inl ⟨rfl,rfl,rfl⟩,rfl,rfl,(hback (hS.take (A:=Row g cs 79) An)).picks (by focus((repeat(first|apply Picks.all|apply Picks.nil|(refine Picks.cons (by repeat(first|apply Take.head|apply Take.tail)) ?_)|apply Picks.drop));done))⟩)
  | (have hc:e3≠0:=by assumption
     have hc2:¬e2≠0:=by assumption
     have hc1:¬e1≠0:=by assumption
     rw[if_neg hc1,if_neg hc2,if_pos hc];refine Qw Tryz.func48 ?_;rw[herr hc,show ptS x x.x.s=x from rfl,zBQ hx]at hS;exact⟨rfl,ρ2,ps,ms,_,_,o2,.inl ⟨rfl,rfl,rfl⟩,rfl,rfl,(hback (hS.take (A:=Row g cs 79) An)).picks (by focus((repeat(first|apply Picks.all|apply Picks.nil|(refine Picks.cons (by repeat(first|apply Take.head|apply Take.tail)) ?_)|apply Picks.drop));done))⟩)
  | skip
 have hc3:¬e3≠0:=by assumption
 have hc2:¬e2≠0:=by assumption
 have hc1:¬e1≠0:=by assumption
 rw[if_neg hc1,if_neg hc2,if_neg hc3,zGz];simp only[Wd.setPart];clear kW;generalize hQ:m.foldl (lhk L3) (heard,K)=Q;repeat' first|apply Qb
 unfold maxLen at cm2;have hm13:m.length≤13:=by
  have:=zF7 (lim:=zAB) (L:=L2) (e:=ex) (pl:=px) (wa:=o.wa) (wc:=o.wc) ho;rw[hsz0]at this;exact this
 have hhS:St we ρ2 (KN Hkb Hp heard K::zAA Hp zAB L3::Each (ptI Hp) (ps.set o.a.toNat (ptS x s3))::Row wb (wdL ⟨Hp,Hkb,Hstb,Hds,Hps,Hms,.slice (some ⟨g,0,none⟩) ps.length capp,.slice pkm ms.length capm,Hve⟩ f3) 68::Row bx (ptyL x) 79::Row b (wopL o) 57::Row g cs 79::Vec 80 1 (.slice pkm ms.length capm) ms.length (ms.flatMap mgL)::Vec 33 13 Hve evs.length (evs.flatMap evtL)::F) _:=hS.pk;have hk3:∀y,K y=true→has L3 y=true:=fun y hy=>by
  have:=(zDD (lim:=zAB) (L:=L2) (s:=x.x.s) (e:=ex) (pl:=px) (wa:=o.wa) (wc:=o.wc) ho).has (hk2 y (hk1 y (hh y hy)));rw[hsz0]at this;exact this
 clear hS;refine Run.while (fun z:Nat × List Int × (Int→Bool)=>[(0,pP wb),(3,pP b),(6,pP bx),(10,.slice pm m.length cm),(56,.slice pm m.length cm),(57,pI m.length),(58,pI z.1)])
  (fun z w=>z.1≤m.length∧(m.drop z.1).foldl (lhk L3) z.2=Q∧(∀y,z.2.2 y=true→has L3 y=true)∧z.2.1.length≤heard.length+z.1∧St we ρ2 (KN Hkb Hp z.2.1 z.2.2::zAA Hp zAB L3::Each (ptI Hp) (ps.set o.a.toNat (ptS x s3))::Row wb (wdL ⟨Hp,Hkb,Hstb,Hds,Hps,Hms,.slice (some ⟨g,0,none⟩) ps.length capp,.slice pkm ms.length capm,Hve⟩ f3) 68::Row bx (ptyL x) 79::Row b (wopL o) 57::Row g cs 79::Vec 80 1 (.slice pkm ms.length capm) ms.length (ms.flatMap mgL)::Vec 33 13 Hve evs.length (evs.flatMap evtL)::F) w)
  (fun z=>m.length - z.1) (0,heard,K) ⟨Nat.zero_le _,by simpa using hQ,hk3,Nat.le_refl _,hhS⟩ (by exact Sb) ?_
 clear hhS hQ;rintro⟨i,hd,kk⟩ w ⟨hi,hrel,hkk,hlen,hS⟩ ih;simp only at hi hrel hkk hlen hS ih ⊢;by_cases hlast:i<m.length
 · obtain⟨b0,o0,cs0,e0,f0,rfl,m0,h0⟩:=sl2.int hlast
   rw[List.drop_eq_getElem_cons hlast,List.foldl_cons]at hrel;obtain⟨g3,-⟩:=zA7 (hS.take (A:=zAA Hp zAB L3) (.tail .head));have hkk2:=zKt g3 (q:=(hd,kk)) (x:=m[i]) hkk;have hln2 := @zKs L3 (hd,kk) m[i];have kL:∀{F w},St we ρ2 (KN Hkb Hp hd kk::zAA Hp zAB L3::F) w→_:=fun hS=>zRs (x:=m[i]) (W:=⟨L3,hd,kk,0,[],[],[],[]⟩) hkk (by show hd.length≤100000;omega) rfl rfl rfl hS
   have hlk:(zAd ⟨L3,hd,kk,0,[],[],[],[]⟩ m[i]).1.heard=(lhk L3 (hd,kk) m[i]).1∧(zAd ⟨L3,hd,kk,0,[],[],[],[]⟩ m[i]).1.K=(lhk L3 (hd,kk) m[i]).2:=by unfold zAd lhk;split<;>exact⟨rfl,rfl⟩
   rw[hlk.1,hlk.2]at kL;generalize lhk L3 (hd,kk) m[i]=q2 at kL hrel hkk2 hln2;repeat' first|(refine Ql ?_ (h:=by apply Still.load;rfl;rfl;exact Rd.ro m0;exact h0))|(refine Qv 82 (kL hS) ?_;clear hS;intro w1 hS)|apply Qs|apply Qr|(apply Rs<;>intro hc<;>try exact No)|apply Qn|refine Ql ?_|refine Qt ?_|apply Qk|apply Qb|apply Qi
   refine Run.weaken (by exact Sb) (ih (i+1,q2) _ ⟨by simp only;omega,hrel,hkk2,by simp only at hln2 ⊢;omega,hS.pk⟩ (by simp only;omega))
 · obtain rfl:i=m.length:=by omega
   rw[List.drop_length,List.foldl_nil]at hrel;subst hrel;simp only;have hx3:(ps.set o.a.toNat (ptS x s3))[o.a.toNat]? = some (ptS x s3):=by rw[List.getElem?_set_self hlt]
   have hsub:IntKind.i64.wrap (((ms.length+1:Nat):Int) - 1)=(ms.length:Int):=by
    rw[show((ms.length+1:Nat):Int) - 1=ms.length by omega];exact zA8 (by omega) (by omega)
   have hev:(⟨o.a,x.x.dev,s3.note⟩:Evt)=evOf (ptS x s3):=by
    have h1:(x.at_:Int)=o.a:=by omega
    show(⟨o.a,x.x.dev,s3.note⟩:Evt)=⟨x.at_,x.x.dev,s3.note⟩;rw[h1]
   repeat' first|(refine Ql ?_ (h:=by apply Still.sub;rfl;rfl;exact hsub))|(apply RO.op;apply OP.append (size:=1) (bytes:=24) (k:=1) (news:=[.slice pm m.length cm]) hS;rfl;rfl;rfl;rfl;rfl;rfl;rfl;rfl;exact(by omega);exact An;(exact Rd.any);rfl;rfl;exact(by intro v hv;simp at hv;subst hv;rfl);(exact(by unfold maxLen;omega));(exact(by omega));rfl;clear hS;intro v2 w1 hS;obtain⟨pk2,capk2,rfl⟩:=zAG hS)|(refine Qc 91 (c:=zHw (x:=ptS x s3) (H:=⟨Hp,Hkb,Hstb,Hds,Hps,Hms,.slice (some ⟨g,0,none⟩) ps.length capp,.slice pk2 (ms.length+1) capk2,Hve⟩) hx3 hel (zQx hS An An An)) (k':=?_);clear hS;rintro v w1 ⟨rfl,ve2,hS⟩)|apply Qs|apply Qr|(apply Rs<;>intro hc<;>try exact No)|apply Qn|refine Ql ?_|(refine Qd ?_;clear hS;intro w1 hS)|(refine Qg ?_;clear hS;intro b w1 hS)|refine Qf ?_|refine Qe ?_
   refine Qw Tryz.func48 ?_;rw[hev];refine⟨rfl,ρ2,ps.set o.a.toNat (ptS x s3),ms++[(m,.slice pm m.length cm)],.slice pk2 (ms.length+1) capk2,ve2,o2,.inr ⟨L2,ex,px,m,.slice pm m.length cm,by rw[hsz0];simp only;omega,by rw[hsz0],rfl,sl2,by simp,by omega,hm13⟩,by rw[List.map_set];rfl,by rw[List.map_append];rfl,?_⟩;have h5:=hback (hS.take (A:=Row g cs 79) An);rw[show(ms++[(m,Value.slice pm m.length cm)]).length=ms.length+1 by simp,List.flatMap_append (f:=mgL)];exact h5.pk
end
theorem zOr:∀{ds:List DevH} {y:DevH},(ds.map (·.d.id)).Nodup→y∈ds→(ds.map (·.d)).find? (fun d=>decide (d.id=y.d.id))=some y.d
 | [],y,_,h=>by simp at h
 | z::ds,y,hn,h=>by
   have h0:=List.nodup_cons.1 hn;rcases List.mem_cons.1 h with rfl|h
   · simp
   · have h1:¬z.d.id=y.d.id:=by
      intro e;have h2:y.d.id∈ds.map (·.d.id):=List.mem_map_of_mem (f:=fun x:DevH=>x.d.id) h;rw[← e]at h2;exact h0.1 h2
     rw[List.map_cons,List.find?_cons,decide_eq_false h1];exact zOr h0.2 h
theorem zVM (ms:List (List Int × Value)):ms.flatMap mgL=ms.map (·.2):=by
 induction ms with
 | nil=>rfl
 | cons m l ih=>rw[List.flatMap_cons,ih];rfl
section
variable {we w:World}{ρ:List (Nat × Obj)}{σ F:List HP}{wb p:Nat}{f:Int}{H:Hd}{L:List Nd}{ds:List DevH}{ps:List PtH}{ms:List (List Int × Value)}{o:WOp}{i j:Nat}{x:PtH}{y:DevH}{vp vm mv:Value}{msg:List Int}{evs:List Evt}
theorem zTb {n:Nat}(hn:n<ms.length)(h:St we ρ (Vec 80 1 vm ms.length (ms.flatMap mgL)::F) w) :
 ∃g cap cs,vm = .slice (some ⟨g,0,none⟩) ms.length cap∧cs[n]? = some (ms[n]).2 ∧
  (∀{ρ F w},St we ρ (Row g cs 80::F) w→St we ρ (Vec 80 1 vm ms.length (ms.flatMap mgL)::F) w)∧St we ρ (Row g cs 80::F) w:=by
 obtain⟨hl,⟨rfl,h0,_,_⟩|⟨g,cap,spare,rfl,h1,h2,h3,hS⟩⟩:=zBP h
 · omega
 · refine⟨g,cap,ms.flatMap mgL++spare,rfl,?_,fun h=>zBF h h1 h2 (by rw[List.length_append,hl,h3,← Nat.add_mul];congr 1;omega) (by rw[← hl];exact List.take_left),hS⟩
   rw[List.getElem?_append_left (by rw[hl];omega),zVM];simp[hn]
theorem zTE {wa wc:Int}(hx:ps[i]? = some x)(hy:ds[j]? = some y)(hdb:y.db=x.db)(ho:ShOk x.x.s.h)(hr:ShR ρ x.r x.x.s.h)(hix:0≤x.x.s.index∧x.x.s.index≤100000)(hms:Sl ρ intL 1 mv msg)(hb:y.d.peers.length≤100000)
 (hS:St we ρ (Each (ptI p) ps::zAA p zAB L::Each devI ds::F) w) :
 Cl Tryz.prog 18 [pP x.sb,mv,lvV wa wc] w fun v w'=>v = .tuple #[pI (zAP zAB L x.x.s y.d msg wa wc).2.2.1,zRL (zAP zAB L x.x.s y.d msg wa wc),pI (zAP zAB L x.x.s y.d msg wa wc).2.2.2] ∧
  St we ρ (Each (ptI p) (ps.set i (ptS x (zAP zAB L x.x.s y.d msg wa wc).2.1))::zAA p zAB (zAP zAB L x.x.s y.d msg wa wc).1::Each devI ds::F) w':=by
 have h1:=zDA hx hS;have h2:=zDX hy (h1.take (A:=Each devI ds) An);rw[hdb]at h2;refine(zKS (db:=x.db) (p:=p) (pb:=y.pb) (d:=y.d) (L:=L) (F:=zDL x.bb 8 x.x.box::Each (ptI p) (ps.eraseIdx i)::zAC y.kb 8 y.d.psks::Each devI (ds.eraseIdx j)::F) ho hr hix hms hb h2.pk).mono ?_;rintro v w' ⟨hv,h3⟩;refine⟨hv,?_⟩;have h4:=zFH hy (F:=Row x.sb (sesL x.r (zAP zAB L x.x.s y.d msg wa wc).2.1 p x.db) 102::zDL x.bb 8 x.x.box::Each (ptI p) (ps.eraseIdx i)::zAA p zAB (zAP zAB L x.x.s y.d msg wa wc).1::F) (by rw[hdb];exact h3.pk);have h5:=zC9 (s:=(zAP zAB L x.x.s y.d msg wa wc).2.1) (b:=x.x.box) hx (F:=Each devI ds::zAA p zAB (zAP zAB L x.x.s y.d msg wa wc).1::F) h4.pk;exact h5.pk
def RdTo (ps:List PtH)(evs:List Evt)(o:WOp)(x:PtH)(ps':List PtH)(evs':List Evt):Prop :=
 (ps'=ps∧evs'=evs) ∨
 ∃L0 d msg l,ps'=ps.set o.a.toNat (ptB (ptS x (zAP zAB L0 x.x.s d msg o.wa o.wc).2.1) l)∧(∀n∈l,n∈x.x.box)∧evs'.length≤evs.length+1
theorem zQl {heard:List Int}{K:Int→Bool}{W:Wd}(hW:W=⟨L,heard,K,f,ds.map (·.d),ps.map (·.x),ms.map (·.1),evs⟩)(hx:ps[o.a.toNat]? = some x)(ha:0≤o.a)(hat:x.at_=o.a.toNat)(ho:ShOk x.x.s.h)(hr:ShR ρ x.r x.x.s.h)(hix:0≤x.x.s.index∧x.x.s.index≤100000)
 (hy:ds[j]? = some y) (hdb:y.db=x.db) (hid:y.d.id=x.x.dev) (hnd:(ds.map (·.d.id)).Nodup) (hb:y.d.peers.length≤1000) (hbox:∀n∈x.x.box,0≤n∧n<ms.length) (hmsl:∀m∈ms,Sl ρ intL 1 m.2 m.1) (hel:evs.length≤10000) (hS:St we ρ (Row wb (wdL H f) 68::zAA H.p zAB L::Each devI ds::Vec 79 4 H.vp ps.length (ps.flatMap ptyL)::Each (ptI H.p) ps::Vec 80 1 H.vm ms.length (ms.flatMap mgL)::Vec 33 13 H.ve evs.length (evs.flatMap evtL)::F) w) :
 Cl Tryz.prog 50 [pP wb,opV o] w fun v w'=>v = .tuple #[pI (zDb W o).2.1,pI (zDb W o).2.2] ∧
  ∃ps' ve',RdTo ps evs o x ps' (zDb W o).1.evs∧ps'.map (·.x)=(zDb W o).1.parts ∧
   St we ρ (Row wb (wdL { H with ve:=ve' } f) 68::zAA H.p zAB (zDb W o).1.L::Each devI ds::Vec 79 4 H.vp ps.length (ps.flatMap ptyL)::Each (ptI H.p) ps' ::
    Vec 80 1 H.vm ms.length (ms.flatMap mgL)::Vec 33 13 ve' (zDb W o).1.evs.length ((zDb W o).1.evs.flatMap evtL)::F) w':=by
 obtain⟨Hp,Hkb,Hstb,Hds,Hps,Hms,Hvp,Hvm,Hve⟩:=H;simp only at hS ⊢;obtain⟨g,capp,cs,rfl,hc4,hc0,hc1,hback,hS⟩:=zGE hx (hS.take (A:=Vec 79 4 Hvp ps.length (ps.flatMap ptyL)) An);have hlt:=(List.getElem?_eq_some_iff.1 hx).1;have hpart:W.part o.a=x.x:=by
  rw[hW];simp[Wd.part,List.getD_eq_getElem?_getD,hx]
 have hdev:W.dev x.x.dev=some y.d:=by
  rw[hW,← hid];exact zOr hnd (List.mem_of_getElem? hy)
 unfold zDb;rw[hpart];simp only[hdev,Option.getD_some];subst hW;simp only[Wd.setPart];have kT:∀{F w},St we ρ (Each (ptI Hp) ps::F) w→_:=fun hS=>zRp hx hS
 refine Run.calls2 (n:=51) Tryz.func50 rfl rfl rfl ?_;repeat' first|apply Qs|apply Qr|apply Qn|refine Ql ?_|(refine Qx ?_;clear hS;intro b w1 hS)
 refine(Run.regionH_cut (fun z:Nat=>Row z (ptyL x) 79::Row b (wopL o) 57::Row wb (wdL ⟨Hp,Hkb,Hstb,Hds,Hps,Hms,.slice (some ⟨g,0,none⟩) ps.length capp,Hvm,Hve⟩ f) 68::Row g cs 79::zAA Hp zAB L::Each devI ds::Each (ptI Hp) ps::Vec 80 1 Hvm ms.length (ms.flatMap mgL)::Vec 33 13 Hve evs.length (evs.flatMap evtL)::F) (fun z=>[(0,pP wb),(3,pP b),(6,pP z)])
  (show St we ρ (Row b (wopL o) 57::Row wb (wdL ⟨Hp,Hkb,Hstb,Hds,Hps,Hms,.slice (some ⟨g,0,none⟩) ps.length capp,Hvm,Hve⟩ f) 68::Row g cs 79::zAA Hp zAB L::Each devI ds::Each (ptI Hp) ps::Vec 80 1 Hvm ms.length (ms.flatMap mgL)::Vec 33 13 Hve evs.length (evs.flatMap evtL)::F) _ from hS.pk) (List.Sublist.refl _) (by rfl) (by rfl) (by rfl) ?_ ?_)
 · clear hS
   intro w1 hS;refine RH.relist (listed':=bm 10 0) (by kernel_rfl) ?_;repeat' first|refine Yt 0 0 ?_|refine Yt 1 1 ?_|refine Yl 3 2 ?_|refine Yl 7 3 ?_|refine Yl 15 4 ?_|refine Yl 31 5 ?_|(refine Yt 63 6 ?_ (h:=by first|exact Sx|exact Still.any))|refine Yl 127 7 ?_|(refine Oa ?_;clear hS;intro b w1 hS;refine Xh ?_)|(refine Od ?_;clear hS;intro w1 hS;refine Xh ?_)|refine Jo ?_|refine Za 255 8 ?_|refine Za 511 9 ?_|(refine Yd 1023 ?_;exact⟨_,Sb,hS.pk⟩)
 clear hS;intro bx w1 hS;cases hbx:x.x.box with
 | nil =>
   rw[hbx]at kT;simp only[List.headD_nil,List.isEmpty_nil,List.tail_nil,Bool.not_true]at kT ⊢;rw[show ptB x []=x by unfold ptB;rw[← hbx],zBQ hx]at kT;repeat' first|(refine Qv 93 (kT hS.tk) ?_;clear hS;intro w1 hS)|apply Qs|apply Qr|apply Qn|refine Ql ?_|refine Qt ?_
   refine Qw Tryz.func50 ?_;exact⟨rfl,ps,_,.inl ⟨rfl,rfl⟩,rfl,(hback (hS.take (A:=Row g cs 79) An)).picks (by focus((repeat(first|apply Picks.all|apply Picks.nil|(refine Picks.cons (by repeat(first|apply Take.head|apply Take.tail)) ?_)|apply Picks.drop));done))⟩
 | cons n l =>
   rw[hbx]at kT;simp only[List.headD_cons,List.isEmpty_cons,List.tail_cons,Bool.not_false]at kT ⊢;obtain⟨hn0,hn1⟩:=hbox n (by rw[hbx];simp);have hnl:n.toNat<ms.length:=by omega
   have hx1:(ps.set o.a.toNat (ptB x l))[o.a.toNat]? = some (ptB x l):=by rw[List.getElem?_set_self hlt]
   have hmv:=hmsl ms[n.toNat] (List.getElem_mem hnl);have hmg:(ms.map (·.1)).getD n.toNat []=(ms[n.toNat]).1:=by simp[List.getD_eq_getElem?_getD,hnl]
   rw[hmg];have kR:∀{F w},St we ρ (Each (ptI Hp) (ps.set o.a.toNat (ptB x l))::zAA Hp zAB L::Each devI ds::F) w→_:=fun hS=>zTE (wa:=o.wa) (wc:=o.wc) hx1 hy hdb ho hr hix hmv (by omega) hS
   rw[List.set_set]at kR;obtain⟨z,hz⟩:∃z,zAP zAB L x.x.s y.d (ms[n.toNat]).1 o.wa o.wc=z:=⟨_,rfl⟩
   have hzz:zAP zAB L (ptB x l).x.s y.d (ms[n.toNat]).1 o.wa o.wc=z:=hz;rw[hzz]at kR;rw[hz];have hss:∀s',ptS (ptB x l) s'=ptB (ptS x s') l:=fun _=>rfl
   rw[hss]at kR;obtain⟨gm,capm,csm,rfl,hcm,hbackm,hS⟩:=zTb hnl (hS.take (A:=Vec 80 1 Hvm ms.length (ms.flatMap mgL)) An);repeat' first|(refine Qv 93 (kT hS.tk) ?_;clear hS;intro w1 hS)|apply Qs|apply Qr|apply Qn|refine Ql ?_|refine Qf ?_|apply Qk
   obtain⟨L3,s3,pl,e3⟩:=z;unfold zRL at kR;simp only at kR ⊢;have hx3:(ps.set o.a.toNat (ptB (ptS x s3) l))[o.a.toNat]? = some (ptB (ptS x s3) l):=by rw[List.getElem?_set_self hlt]
   have hS:St we ρ (Each (ptI Hp) (ps.set o.a.toNat (ptB x l))::zAA Hp zAB L::Each devI ds::Row b (wopL o) 57::Row bx (ptyL x) 79::Row wb (wdL ⟨Hp,Hkb,Hstb,Hds,Hps,Hms,.slice (some ⟨g,0,none⟩) ps.length capp,.slice (some ⟨gm,0,none⟩) ms.length capm,Hve⟩ f) 68::Row gm csm 80::Row g cs 79::Vec 33 13 Hve evs.length (evs.flatMap evtL)::F) _:=hS.pk;by_cases he:e3=0;all_goals
    simp only[he,if_true,if_false]at kR ⊢;refine(Run.regionH_cut (fun _:Unit=>Each (ptI Hp) (ps.set o.a.toNat (ptB (ptS x s3) l))::zAA Hp zAB L3::Each devI ds::Row b (wopL o) 57::Row bx (ptyL x) 79::Row wb (wdL ⟨Hp,Hkb,Hstb,Hds,Hps,Hms,.slice (some ⟨g,0,none⟩) ps.length capp,.slice (some ⟨gm,0,none⟩) ms.length capm,Hve⟩ f) 68::Row gm csm 80::Row g cs 79::Vec 33 13 Hve evs.length (evs.flatMap evtL)::F) (fun _=>[(0,pP wb),(6,pP bx),(9,pI pl),(11,pI e3)])
     hS (.cons _ (.cons _ (.cons _ (List.Sublist.refl _)))) (by rfl) (by rfl) (by rfl) ?_ ?_)
    · clear hS
      intro w1 hS;(try subst he)
      refine RH.relist (listed':=bm 20 0) (by kernel_rfl) ?_;repeat' first|refine Yl 0 0 ?_|refine Yl 1 1 ?_|refine Yt 3 2 ?_|refine Yt 7 3 ?_|refine Yl 15 4 ?_|refine Yl 31 5 ?_|refine Yt 63 6 ?_|(refine Yt 127 7 ?_ (h:=by first|exact Sx|exact Still.any))|refine Yl 255 8 ?_|refine Yl 511 9 ?_|refine Yl 1023 10 ?_|refine Yt 4095 12 ?_|refine Yt 8191 13 ?_|refine Yt 16383 14 ?_|refine Yt 32767 15 ?_|refine Yt 131071 17 ?_|refine Yt 524287 19 ?_|refine Yt 69631 12 ?_|refine Yt 73727 13 ?_|refine Yt 81919 14 ?_|refine Yt 98303 15 ?_|(refine Ov 18 (kR hS) ?_;clear hS;intro w1 hS;refine Xh ?_)|(refine Oa ?_;clear hS;intro b w1 hS;refine Xh ?_)|(refine Od ?_;clear hS;intro w1 hS;refine Xh ?_)|(refine Ov 18 (kR (zQx hS An An An)) ?_;clear hS;intro w1 hS;refine Xh ?_)|refine Jo ?_|refine Zb 2047 11 16 ?_ ?_|refine Za 65535 16 ?_|refine Za 262143 18 ?_|refine Za 67583 11 ?_|(refine Yd 1048575 ?_;exact⟨(),Sb,hS.pk⟩)
    clear hS;rintro - w1 hS
   · subst he
     have hev:(⟨o.a,x.x.dev,s3.note⟩:Evt)=evOf (ptB (ptS x s3) l):=by
      have h1:(x.at_:Int)=o.a:=by omega
      show(⟨o.a,x.x.dev,s3.note⟩:Evt)=⟨x.at_,x.x.dev,s3.note⟩;rw[h1]
     repeat' first|(refine Qc 91 (c:=zHw (x:=ptB (ptS x s3) l) (H:=⟨Hp,Hkb,Hstb,Hds,Hps,Hms,.slice (some ⟨g,0,none⟩) ps.length capp,.slice (some ⟨gm,0,none⟩) ms.length capm,Hve⟩) hx3 hel (zQx hS An An An)) (k':=?_);clear hS;rintro v w1 ⟨rfl,ve2,hS⟩)|apply Qs|apply Qr|(apply Rs<;>intro hc<;>try exact No)|apply Qn|refine Ql ?_|refine Qf ?_|apply Qk
     refine Qw Tryz.func50 ?_;simp only[ne_eq,not_true_eq_false,if_false];rw[hev];refine⟨rfl,ps.set o.a.toNat (ptB (ptS x s3) l),ve2,.inr ⟨L,y.d,(ms[n.toNat]).1,l,by rw[hz],fun m hm=>by simp[hbx,hm],by simp⟩,by rw[List.map_set];rfl,?_⟩;have h5:=hback (hS.take (A:=Row g cs 79) An);have h6:=hbackm (h5.take (A:=Row gm csm 80) An);exact h6.pk
   · repeat' first|apply Qs|apply Qr|(apply Rs<;>intro hc<;>try exact No)|apply Qn|refine Ql ?_|refine Qt ?_
     refine Qw Tryz.func50 ?_;simp only[ne_eq,he,not_false_eq_true,if_true];refine⟨rfl,ps.set o.a.toNat (ptB (ptS x s3) l),Hve,.inr ⟨L,y.d,(ms[n.toNat]).1,l,by rw[hz],fun m hm=>by simp[hbx,hm],by simp⟩,by rw[List.map_set];rfl,?_⟩;have h5:=hback (hS.take (A:=Row g cs 79) An);have h6:=hbackm (h5.take (A:=Row gm csm 80) An);exact h6.pk
end
theorem zVv {α:Type}{g : α→List Value}{ρ:List (Nat × Obj)}{b off cap:Nat}{l:List α}{k:Nat}(hk:k<l.length)(h:Sl ρ g 1 (.slice (some ⟨b,off,none⟩) l.length cap) l) :
 Sl ρ g 1 (.slice (some ⟨b,off+k*1,none⟩) (l.drop k).length (cap - k)) (l.drop k):=by
 obtain⟨p,c,e1,h1,h2,h3⟩:=h.val;simp only[Value.slice.injEq]at e1;obtain⟨rfl,-,rfl⟩:=e1;obtain⟨b',off',cs,el,fr,e2,e3,e4⟩:=h3 (by omega);simp only[Option.some.injEq,Addr.mk.injEq]at e2;obtain⟨rfl,rfl,-⟩:=e2;refine⟨⟨_,_,rfl,by simp;omega,by omega,fun _=>⟨b,off+k*1,cs,el,fr,rfl,e3,fun i hi=>?_⟩⟩⟩;have hi2:k+i<l.length:=by simp at hi;omega
 have:=e4 (k+i) hi2;rw[show off+(k+i)*1=off+k*1+i*1 by omega]at this;simpa using this
section
variable {we w:World}{ρ:List (Nat × Obj)}{σ F:List HP}{wb p:Nat}{f:Int}{H:Hd}{L:List Nd}{devs:List Dv}{parts:List Pt}{ms:List (List Int × Value)}{o:WOp}{heard:List Int}{K:Int→Bool}{evs:List Evt}
def FgTo (ρ':List (Nat × Obj))(ms ms':List (List Int × Value)):Prop :=
 ms'=ms∨∃m mv,ms'=ms++[(m,mv)]∧Sl ρ' intL 1 mv m∧ms.length<256
theorem zO7 {W:Wd}(hW:W=⟨L,heard,K,f,devs,parts,ms.map (·.1),evs⟩)(hst:Sl ρ stpL 5 o.sl o.steps)(hsn:∀s∈o.steps,0≤s.n∧s.n≤18446744073709551615)(hsl:o.steps.length≤1000)(hhl:heard.length≤50000)(hhh:zBd L heard)(hml:ms.length≤256)
 (hS:St we ρ (Row wb (wdL H f) 68::zAA H.p zAB L::KN H.kb H.p heard K::Vec 80 1 H.vm ms.length (ms.flatMap mgL)::F) w) :
 Cl Tryz.prog 51 [pP wb,opV o] w fun v w'=>v = .tuple #[pI (zCK W o).2.1,pI (zCK W o).2.2] ∧
  ∃ ρ' ms' vm',Over we ρ ρ'∧FgTo ρ' ms ms'∧ms'.map (·.1)=(zCK W o).1.msgs ∧
   St we ρ' (Row wb (wdL { H with vm:=vm' } f) 68::zAA H.p zAB (zCK W o).1.L::KN H.kb H.p heard K::Vec 80 1 vm' ms'.length (ms'.flatMap mgL)::F) w':=by
 obtain⟨g0,-⟩:=zA7 (hS.take (A:=zAA H.p zAB L) (.tail .head));obtain⟨Hp,Hkb,Hstb,Hds,Hps,Hms,Hvp,Hvm,Hve⟩:=H;simp only at hS ⊢;obtain⟨pkm,capm,rfl⟩:=zAG (hS.take (A:=Vec 80 1 Hvm ms.length (ms.flatMap mgL)) An);obtain⟨ps0,cs0,hsv,-⟩:=hst.val;subst hW;unfold zCK;obtain⟨ok,oa,ob,oc,on,owa,owc,osl,ost⟩:=o;simp only at hst hsn hsl hsv ⊢;subst hsv;simp only[List.length_map];rw[show opV ⟨ok,oa,ob,oc,on,owa,owc,.slice ps0 ost.length cs0,ost⟩ = .agg (List.toArray [pI ok,pI oa,pI ob,pI oc,.string on,pI owa,pI owc,.slice ps0 ost.length cs0]) from rfl];by_cases hb:ob<1∨(ost.length:Int)<ob
 · rw[if_pos hb]
   refine Run.calls2 (n:=69) Tryz.func51 rfl rfl rfl ?_;repeat' first|apply Qs|apply Qr|(apply Rs<;>intro hc<;>try exact No)|apply Qn|refine Ql ?_|(refine Qx ?_;clear hS;intro b w1 hS)|refine Qy ?_|refine Qz ?_|refine Qt ?_
   all_goals
    refine Qw Tryz.func51 ?_;exact⟨rfl,ρ,ms,_,Over.refl _ _,.inl rfl,rfl,hS.pk⟩
 rw[if_neg hb];have kR:∀{F w},St we ρ (KN Hkb Hp heard K::zAA Hp zAB L::F) w→_:=fun hS=>zRE g0 hst hsn hsl (by omega) hhh hS
 have hmade:=(@zRF zAB heard ost L [] 0).1;generalize runS zAB heard ost L [] 0=z at kR hmade;obtain⟨L2,M,z1,e2⟩:=z;simp only at kR hmade ⊢;refine Run.calls2 (n:=69) Tryz.func51 rfl rfl rfl ?_;repeat' first|apply Qs|apply Qr|(apply Rs<;>intro hc<;>try exact No)|apply Qn|refine Ql ?_|(refine Qx ?_;clear hS;intro b w1 hS)|refine Qy ?_|refine Qf ?_|apply Qk
 refine(Run.regionH_cut (fun mv:Value=>Vec 3 1 mv M.length (M.flatMap intL)::KN Hkb Hp heard K::zAA Hp zAB L2::Row b [pI ok,pI oa,pI ob,pI oc,.string on,pI owa,pI owc,.slice ps0 ost.length cs0] 57::Row wb (wdL ⟨Hp,Hkb,Hstb,Hds,Hps,Hms,Hvp,.slice pkm ms.length capm,Hve⟩ f) 68::Vec 80 1 (.slice pkm ms.length capm) ms.length (ms.flatMap mgL)::F) (fun mv=>[(0,pP wb),(3,pP b),(6,mv),(8,pI e2)])
  (show St we ρ (KN Hkb Hp heard K::zAA Hp zAB L::Row b [pI ok,pI oa,pI ob,pI oc,.string on,pI owa,pI owc,.slice ps0 ost.length cs0] 57::Row wb (wdL ⟨Hp,Hkb,Hstb,Hds,Hps,Hms,Hvp,.slice pkm ms.length capm,Hve⟩ f) 68::Vec 80 1 (.slice pkm ms.length capm) ms.length (ms.flatMap mgL)::F) _ from hS.pk) (.cons _ (.cons _ (List.Sublist.refl _))) (by rfl) (by rfl) (by rfl) ?_ ?_)
 · clear hS
   intro w1 hS;refine RH.relist (listed':=bm 18 0) (by kernel_rfl) ?_;repeat' first|refine Yt 0 0 ?_|refine Yt 1 1 ?_|refine Yl 3 2 ?_|refine Yl 7 3 ?_|refine Yt 15 4 ?_|refine Yt 31 5 ?_|refine Yl 63 6 ?_|refine Yl 127 7 ?_|refine Yl 255 8 ?_|refine Yl 511 9 ?_|refine Yt 2047 11 ?_|refine Yt 4095 12 ?_|refine Yt 8191 13 ?_|refine Yt 16383 14 ?_|refine Yt 32767 15 ?_|refine Yt 65535 16 ?_|refine Yt 131071 17 ?_|(refine Oc 94 (c:=kR hS) (k':=?_);clear hS;rintro v w1 ⟨mv,rfl,hS⟩;refine Xh ?_)|refine Jo ?_|refine Za 1023 10 ?_|(refine Yd 262143 ?_;exact⟨mv,(by exact Sb),hS.pk⟩)
 clear hS;intro mv w1 hS;obtain⟨ρ2,o2,sl2,hT⟩:=zAH zAZ hS;clear hS;obtain⟨pm,cm,rfl,cm1,cm2,hrow⟩:=sl2.val;have hS:=hT;clear hT;by_cases he:e2=0;rotate_left
 · rw[if_pos he]
   repeat' first|apply Qs|apply Qr|(apply Rs<;>intro hc<;>try exact No)|apply Qn|refine Ql ?_|refine Qt ?_|apply Qb
   refine Qw Tryz.func51 ?_;exact⟨rfl,ρ2,ms,_,o2,.inl rfl,rfl,hS.pk⟩
 subst he;simp only[ne_eq,not_true_eq_false,if_false];by_cases hf:256≤ms.length
 · rw[if_pos hf]
   repeat' first|apply Qs|apply Qr|(apply Rs<;>intro hc<;>try exact No)|apply Qn|refine Ql ?_|refine Qt ?_|refine Qf ?_|apply Qb
   refine Qw Tryz.func51 ?_;exact⟨rfl,ρ2,ms,_,o2,.inl rfl,rfl,hS.pk⟩
 rw[if_neg hf];obtain⟨M',hM1,hM2⟩:=hmade rfl;rw[List.nil_append]at hM1;subst hM1;obtain⟨mb,mo,-,-,-,rfl,-,-⟩:=hrow (by omega);have hkk:M.length - ob.toNat<M.length:=by omega
 have hsub0:IntKind.i64.wrap ((M.length:Int) - ob)=(M.length:Int) - ob:=zA8 (by omega) (by omega);have hd1:((M.length:Int) - ob).toNat=M.length - ob.toNat:=by omega
 have hdl:M.length - ((M.length:Int) - ob).toNat=(M.drop (M.length - ob.toNat)).length:=by rw[hd1];simp<;>omega
 have hdc:cm - ((M.length:Int) - ob).toNat=cm - (M.length - ob.toNat):=by rw[hd1]
 have hdo:mo+((M.length:Int) - ob).toNat*1=mo+(M.length - ob.toNat)*1:=by rw[hd1]
 have hds:=zVv hkk sl2;have hdn:(M.drop (M.length - ob.toNat)).length≤1000:=by simp<;>omega
 generalize M.drop (M.length - ob.toNat)=D at hdl hds hdn;have kC:∀{σ:List HP} {w:World},St we ρ2 σ w→_:=fun hS=>zGf hds (by omega) hS
 repeat' first|apply Qs|apply Qr|(apply Rs<;>intro hc<;>try exact No)|apply Qn|refine Ql ?_|refine Qf ?_|apply Qk|apply Qb|apply Qi
 refine(Run.regionH_cut (fun z:(Option Addr × Nat) × (Option Addr × Nat)=>Row wb (wdL ⟨Hp,Hkb,Hstb,Hds,Hps,Hms,Hvp,.slice z.1.1 (ms.length+1) z.1.2,Hve⟩ f) 68::Vec 80 1 (.slice z.1.1 (ms.length+1) z.1.2) (ms.length+1) (ms.flatMap mgL++[.slice z.2.1 D.length z.2.2])::Vec 3 1 (.slice z.2.1 D.length z.2.2) D.length (D.flatMap intL)::Row b [pI ok,pI oa,pI ob,pI oc,.string on,pI owa,pI owc,.slice ps0 ost.length cs0] 57::zAA Hp zAB L2::KN Hkb Hp heard K::F)
  (fun _=>[(0,pP wb),(3,pP b)])
  (show St we ρ2 (Row wb (wdL ⟨Hp,Hkb,Hstb,Hds,Hps,Hms,Hvp,.slice pkm ms.length capm,Hve⟩ f) 68::Vec 80 1 (.slice pkm ms.length capm) ms.length (ms.flatMap mgL)::Row b [pI ok,pI oa,pI ob,pI oc,.string on,pI owa,pI owc,.slice ps0 ost.length cs0] 57::zAA Hp zAB L2::KN Hkb Hp heard K::F) _ from hS.pk) (.cons _ (.cons _ (List.Sublist.refl _))) (by rfl) (by rfl) (by rfl) ?_ ?_)
 · clear hS
   intro w1 hS;refine RH.relist (listed':=bm 18 0) (by kernel_rfl) ?_;repeat' first|(apply Rh<;>intro hc<;>try exact No)|refine Yt 0 0 ?_|refine Yt 1 1 ?_|refine Yt 3 2 ?_|refine Yl 7 3 ?_|refine Yt 15 5 ?_|refine Yt 47 6 ?_|(refine Yt 111 7 ?_ (h:=by first|(apply Still.sub;rfl;rfl;exact hsub0)|(apply Still.sliceLo;rfl;rfl;rfl;rfl;omega;omega;omega;exact hdo;exact hdl;exact hdc)|exact Still.any))|refine Yl 239 8 ?_|(refine Yt 495 9 ?_ (h:=by first|(apply Still.sub;rfl;rfl;exact hsub0)|(apply Still.sliceLo;rfl;rfl;rfl;rfl;omega;omega;omega;exact hdo;exact hdl;exact hdc)|exact Still.an))|refine Yl 1007 10 ?_|(refine Yt 2031 11 ?_ (h:=by first|(apply Still.sub;rfl;rfl;exact hsub0)|(apply Still.sliceLo;rfl;rfl;rfl;rfl;omega;omega;omega;exact hdo;exact hdl;exact hdc)|exact Still.any))|refine Yt 32767 15 ?_|refine Yl 65535 16 ?_|(refine Ol (Xh ?_) (h:=by first|(apply Still.sub;rfl;rfl;exact hsub0)|(apply Still.sliceLo;rfl;rfl;rfl;rfl;omega;omega;omega;exact hdo;exact hdl;exact hdc)|exact Still.an))|(refine Oc 95 (c:=kC hS) (k':=?_);clear hS;intro v w1 hS;obtain⟨pu,cu,rfl⟩:=zAG hS;refine Xh ?_)|(refine Og ?_;clear hS;intro b w1 hS;refine Xh ?_)|(apply OP.append (size:=1) (bytes:=24) (k:=1) (news:=[.slice pu D.length cu]) hS;rfl;rfl;rfl;rfl;rfl;rfl;rfl;rfl;exact(by omega);exact An;(exact Rd.any);rfl;rfl;exact(by intro v hv;simp at hv;subst hv;rfl);(exact(by unfold maxLen;omega));(exact(by omega));rfl;clear hS;intro v2 w1 hS;obtain⟨pk2,capk2,rfl⟩:=zAG hS;refine Xh ?_)|(refine Od ?_;clear hS;intro w1 hS;refine Xh ?_)|refine Jo ?_|refine Zb 4079 4 12 ?_ ?_|refine Za 4095 12 ?_|refine Za 8191 13 ?_|refine Za 16383 14 ?_|refine Za 131071 17 ?_|refine Zb 8175 4 13 ?_ ?_|refine Za 16367 4 ?_|(refine Yd 262143 ?_;exact⟨((pk2,capk2),(pu,cu)),(by exact Sb),hS.pk⟩)
 clear hS;rintro⟨⟨pk2,capk2⟩,⟨pu,cu⟩⟩ w1 hS;obtain⟨ρ3,o3,sl3,hT⟩:=zAH zAZ (hS.take (A:=Vec 3 1 (.slice pu D.length cu) D.length (D.flatMap intL)) An);clear hS;have hS:=hT;clear hT;have hsub:IntKind.i64.wrap (((ms.length+1:Nat):Int) - 1)=(ms.length:Int):=by
  rw[show((ms.length+1:Nat):Int) - 1=ms.length by omega];exact zA8 (by omega) (by omega)
 repeat' first|(refine Ql ?_ (h:=by apply Still.sub;rfl;rfl;exact hsub))|apply Qs|apply Qr|apply Qn|refine Ql ?_
 refine Qw Tryz.func51 ?_;refine⟨rfl,ρ3,ms++[(D,.slice pu D.length cu)],.slice pk2 (ms.length+1) capk2,o2.trans o3,.inr ⟨D,_,rfl,sl3,by omega⟩,by rw[List.map_append];rfl,?_⟩;rw[show(ms++[(D,Value.slice pu D.length cu)]).length=ms.length+1 by simp,List.flatMap_append (f:=mgL)];exact hS.pk
end
end Go.Proofs.YtcikdogkkgefcaaGreatDoor
