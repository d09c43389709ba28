/- Core: LK, QE, QF. -/
import Derived.Test.YtaipogljokblkaaGreatDoorE37
import Derived.Test.YtaipogljokblkaaGreatDoorE29
import Derived.Test.YtaipogljokblkaaGreatDoorE30
import Derived.Test.YtaipogljokblkaaGreatDoorE01
import Derived.Test.YtaipogljokblkaaGreatDoorE38
set_option linter.all false
set_option maxRecDepth 100000
set_option maxHeartbeats 8000000
namespace Go.Proofs.YtaipogljokblkaaGreatDoor
open Go Go.RowKit
set_option linter.unusedSimpArgs false
set_option linter.unusedVariables false
set_option linter.unusedSectionVars false
section
variable{st:Int}{n t:Nat}{J:Xx}{c:Xf}{x:Xj}{M:MR}
theorem We(h:AW n t M)(ht:t<=90000):Vj M:=
 ⟨h.PZ,h.PY,⟨h.QM,h.SN⟩,h.eng,Nat.le_trans h.nl Zo,Nat.le_trans h.Pm.length_le (Nat.le_trans h.nl ht),Nat.le_trans h.sl Zd⟩
theorem cE(h:AW n t M)(hb:QH st n M c):Md M:=by
 obtain⟨hc,ha,hp⟩:=hb.b;have he:=h.eng;have hl:=NR h.QM h.SN;unfold Md;rcases hp with⟨hs,hp⟩|⟨hs,k3,k6,k8⟩|⟨hs,hk⟩|⟨hs,hk,he,i0,i9⟩|⟨hs,hk,i0,i9,a1,a2,ao⟩|⟨hs,hk,i0,i9,he,ao,wo,wn⟩|⟨hs,hk,i0,i9,ao⟩|⟨hs,hk⟩|⟨hs,hk,ho⟩|⟨hs,hk,ho⟩|⟨hs,hk⟩|⟨hs,hk,he⟩|⟨hs,hk,he,i0,il⟩|⟨hs,hk,he⟩|⟨hs,hk,he⟩|⟨hs,hk⟩
 ·exact Or.inl hs
 ·exact Or.inr (Or.inl hs)
 ·exact Or.inr (Or.inr (Or.inl hs))
 ·exact Or.inr (Or.inr (Or.inr (Or.inl ⟨hs,he,i0,i9⟩)))
 ·exact Or.inr (Or.inr (Or.inr (Or.inr (Or.inl ⟨hs,by rw[hc];exact i0,by rw[hc];exact i9⟩))))
 ·exact Or.inr (Or.inr (Or.inr (Or.inr (Or.inr (Or.inl ⟨hs,he,by rw[hc];exact i0,by rw[hc];exact i9⟩)))))
 ·exact Or.inr (Or.inr (Or.inr (Or.inr (Or.inr (Or.inr (Or.inl hs))))))
 ·exact Or.inr (Or.inr (Or.inr (Or.inr (Or.inr (Or.inr (Or.inr (Or.inl hs)))))))
 ·exact Or.inr (Or.inr (Or.inr (Or.inr (Or.inr (Or.inr (Or.inr (Or.inr (Or.inl hs))))))))
 ·exact Or.inr (Or.inr (Or.inr (Or.inr (Or.inr (Or.inr (Or.inr (Or.inr (Or.inr (Or.inl hs)))))))))
 ·exact Or.inr (Or.inr (Or.inr (Or.inr (Or.inr (Or.inr (Or.inr (Or.inr (Or.inr (Or.inr (Or.inl hs))))))))))
 ·exact Or.inr (Or.inr (Or.inr (Or.inr (Or.inr (Or.inr (Or.inr (Or.inr (Or.inr (Or.inr (Or.inr (Or.inl hs)))))))))))
 ·exact Or.inr (Or.inr (Or.inr (Or.inr (Or.inr (Or.inr (Or.inr (Or.inr (Or.inr (Or.inr (Or.inr (Or.inr (Or.inl ⟨hs,by unfold lA;omega,i0,by omega⟩))))))))))))
 ·exact Or.inr (Or.inr (Or.inr (Or.inr (Or.inr (Or.inr (Or.inr (Or.inr (Or.inr (Or.inr (Or.inr (Or.inr (Or.inr (Or.inl hs)))))))))))))
 ·exact Or.inr (Or.inr (Or.inr (Or.inr (Or.inr (Or.inr (Or.inr (Or.inr (Or.inr (Or.inr (Or.inr (Or.inr (Or.inr (Or.inr (Or.inl ⟨hs,Or.inr (Or.inr (Or.inl he))⟩))))))))))))))
 ·obtain⟨d,r,hd,_⟩:=hb.s16 hs;exact Or.inr (Or.inr (Or.inr (Or.inr (Or.inr (Or.inr (Or.inr (Or.inr (Or.inr (Or.inr (Or.inr (Or.inr (Or.inr (Or.inr (Or.inr ⟨hs,d,r,hd,h.Pm.subset (by rw[hd];exact List.mem_cons_self ..)⟩))))))))))))))
theorem uT(h:JV st n c)(h12:c.kind≠12):So c:=by
 unfold So;rcases h with⟨hk,_⟩|⟨hk,_⟩|⟨hk,_⟩|⟨hk,_,h0,h9,hj⟩|⟨hk,ho⟩|hk|⟨hk,_⟩|⟨hk,_⟩|hk
 ·exact Or.inr (Or.inr (Or.inl hk))
 ·exact Or.inr (Or.inr (Or.inr (Or.inl hk)))
 ·exact Or.inr (Or.inr (Or.inr (Or.inr (Or.inl hk))))
 ·exact Or.inr (Or.inr (Or.inr (Or.inr (Or.inr (Or.inl ⟨hk,h0,h9,hj⟩)))))
 ·exact Or.inr (Or.inr (Or.inr (Or.inr (Or.inr (Or.inr (Or.inl ⟨hk,ho⟩))))))
 ·exact Or.inr (Or.inr (Or.inr (Or.inr (Or.inr (Or.inr (Or.inr (Or.inl hk)))))))
 ·exact Or.inr (Or.inr (Or.inr (Or.inr (Or.inr (Or.inr (Or.inr (Or.inr (Or.inl hk))))))))
 ·exact Or.inr (Or.inr (Or.inr (Or.inr (Or.inr (Or.inr (Or.inr (Or.inr (Or.inr (Or.inl hk)))))))))
 ·exact absurd hk h12
theorem oA(h:JI st n J c)(hc:c.kind≠12):J.Ok:=by
 cases J with
 |pile J=>trivial
 |XK J=>trivial
 |lit J=>trivial
 |K2 J=>
  obtain⟨_,h⟩:=h;have hb:=h.b;rcases h.pc with⟨_,h⟩|⟨_,h⟩
  ·exact absurd h hc
  refine⟨?_,hb.kind,hb.k0,hb.k1,hb.w0,hb.w1,λe=>?_,hb.b0,hb.b1,λe=>?_,hb.c0,hb.c1,λe=>?_,λe=>?_⟩
  ·unfold Sj at h;omega
  ·rcases h with hp|hp|⟨hp,ho⟩|⟨hp,h8,ho⟩|⟨hp|hp,hn,ho⟩|⟨hp,hn,ho,hwk⟩|⟨hp,hn,ho,hwk⟩|⟨hp|hp|hp,ho⟩|⟨hp,I,hi,hI⟩|hp|hp|hp|hp<;>first|(exfalso;omega)|exact ho
  ·rcases h with hp|hp|⟨hp,ho⟩|⟨hp,h8,ho⟩|⟨hp|hp,hn,ho⟩|⟨hp,hn,ho,hwk⟩|⟨hp,hn,ho,hwk⟩|⟨hp|hp|hp,ho⟩|⟨hp,I,hi,hI⟩|hp|hp|hp|hp<;>first|(exfalso;omega)|exact ho
  ·rcases h with hp|hp|⟨hp,ho⟩|⟨hp,h8,ho⟩|⟨hp|hp,hn,ho⟩|⟨hp,hn,ho,hwk⟩|⟨hp,hn,ho,hwk⟩|⟨hp|hp|hp,ho⟩|⟨hp,I,hi,hI⟩|hp|hp|hp|hp<;>first|(exfalso;omega)|(obtain⟨W,h1,_⟩:=hwk;exact⟨W,h1⟩)|(obtain⟨W,h1⟩:=hwk;exact⟨W,h1⟩)
  ·rcases h with hp|hp|⟨hp,ho⟩|⟨hp,h8,ho⟩|⟨hp|hp,hn,ho⟩|⟨hp,hn,ho,hwk⟩|⟨hp,hn,ho,hwk⟩|⟨hp|hp|hp,ho⟩|⟨hp,I,hi,hI⟩|hp|hp|hp|hp<;>first|(exfalso;omega)|exact⟨I,hi⟩
 |FJ J=>
  obtain⟨_,h⟩:=h;have hb:=h.b;refine⟨λC e=>(hb.Ab C e).b.lv,λe=>?_⟩;have no:∀{P:Prop},QI J.Ab->P:=λh=>by obtain⟨C,h⟩:=h;rw[e] at h;cases h
  rcases h.pc with⟨_,h⟩|⟨_,h⟩
  ·exact absurd h hc
  rcases h with hp|⟨hk,hp,hc8⟩|⟨hk,hp,hn⟩|⟨hk,hp,hn,ho⟩|⟨hk,hp,hn,ho⟩|⟨hk,hp,hl,hn,ho⟩|⟨hk,hp,hl,hn,ho⟩|⟨hk,hp,hl,hn,ho⟩|⟨hk,hp,ho⟩|⟨hk,hp,hn,ho⟩|⟨hk,hp,hl,hn,ho⟩|⟨hk,hp,hn,ho⟩|⟨hk,hp,hn,ho⟩|⟨hk,hp,hn,ho⟩
  ·have:=hb.op;exact Or.inl ⟨hp,by omega⟩
  ·exact Or.inr ⟨hk,Or.inl hp⟩
  ·exact Or.inr ⟨hk,Or.inr hp⟩
  all_goals first|exact no ho|exact no ho.so
structure RS(st:Int)(n t:Nat)(s:JM)(c:Xf):Prop where
 BF:JI st n s.1 c
 k12:c.kind≠12
 rp:OU st n c (rep s)
 base:AW n t s.2
theorem RS.next{s:JM}(h:RS st n t s c)(h12:((ask s).kind==12)=false)(hb:J5 (Bu s)=false):RS st n (t+1) (Bu s) (ask s)/\Ep (ask s)=true:=by
 have h12':(ask s).kind≠12:=by simpa using h12
 obtain⟨q1,q2,q3⟩:=Js h.BF h.k12 h.rp;have e:Bu s=((s.1.next (rep s)).1,s.2.Aj (ask s)):=by unfold Bu;rw[h12];rfl
 obtain⟨r1,r2⟩:=lS h.base (Or.inl ⟨q2,h12'⟩);have h0:(s.2.Aj (ask s)).R.step=0:=by rw[e] at hb;unfold J5 at hb;simpa using hb
 refine⟨?_,?_⟩
 ·rw[e];refine⟨q1,h12',?_,r1⟩;rcases r2 with r|r
  ·exact absurd h0 r.1
  ·exact r.2
 ·cases hi:Ep (ask s) with
  |true=>rfl
  |false=>exact absurd h0 (Kx s.2 q2 hi h12')
theorem TB:∀(k m t:Nat) (s:JM) (c:Xf),RS st n t s c->Calm Xx.next k (s.1.next (rep s)).1 (ask s)->JU (m+k+1) s
 |k,m,t,s,c,h,hq=>by
  intro h12 hb;obtain⟨q,hi⟩:=h.next h12 hb;cases k with
  |zero=>rw[show Calm Xx.next 0 (s.1.next (rep s)).1 (ask s)=(Ep (ask s)=false) from rfl,hi] at hq;cases hq
  |succ k=>
   have e:(Bu s).1=(s.1.next (rep s)).1:=rfl;have:=TB k m (t+1) (Bu s) (ask s) q (by have:=hq hi (rep (Bu s));rw[←e] at this;exact this);exact this
theorem dC{s:JM}(h:RS st n t s c):∀k,(∀i≤k,J5 (Cn i s)=false)->(∀i<k,((ask (Cn i s)).kind==12)=false)->
  k<=3/\∃c,RS st n (t+k) (Cn k s) c/\(k=0\/(Ep c=true/\Calm Xx.next (4-k) (Cn k s).1 c)):=by
 intro k
 induction k with
 |zero=>exact λ_ _=>⟨by decide,c,h,Or.inl rfl⟩
 |succ k ih=>
  intro hb h12
  obtain⟨hk,c',q,hc⟩:=ih (λi hi=>hb i Zo) λi hi=>h12 i Zo
  have b1:J5 (Bu (Cn k s))=false:=hb (k+1) (Nat.le_refl _)
  obtain⟨q',hi⟩:=q.next (h12 k Zo) b1
  have hq:Calm Xx.next (4-(k+1)) (Cn (k+1) s).1 (ask (Cn k s)):=by
   have e:(Cn (k+1) s).1=((Cn k s).1.next (rep (Cn k s))).1:=rfl;rw[e];rcases hc with hc|⟨hci,hc⟩
   ·subst hc;exact(Js q.BF q.k12 q.rp).2.2
   ·obtain⟨j,hj⟩:∃j,4-k=j+1:=⟨3-k,by omega⟩;rw[hj] at hc;have:=hc hci (rep (Cn k s));rw[show 4-(k+1)=j from by omega];exact this
  have h3:k+1<=3:=by
   rcases Nat.lt_or_ge k 3 with h|h
   ·omega
   ·have:k=3:=Zo;subst this;have hq:Ep (ask (Cn 3 s))=false:=hq;rw[hi] at hq;cases hq
  exact⟨h3,_,by have:=q';rwa [Nat.add_assoc] at this,Or.inr ⟨hi,hq⟩⟩
theorem xD{V:MV}(h:VL st n t V)(ht:t<=80000):ON V:=by
 have main:∀J,V.BF=some J->JI st n J V.call->V.call.kind≠12->(V.Ae=1\/V.Ae=2)->ON V:=λJ hj q h12 hd=>by
  have hs:V.DK=false->RS st n t (J,V.M) V.call:=λhb=>by
   have h0:V.M.R.step=0:=by unfold MV.DK at hb;simpa using hb
   refine⟨q,h12,?_,h.base⟩;rcases h.at_ with h|h
   ·exact absurd h0 h.1
   ·exact h.2
  refine Or.inl ⟨hd,J,hj,λk hb hk=>?_,λhb=>TB 3 1 t _ _ (hs hb) (Js q h12 (hs hb).rp).2.2⟩;obtain⟨h3,c,r,_⟩:=dC (hs (hb 0 Zo)) k hb hk;refine⟨oA r.BF r.k12,We r.base Zo,λe=>?_⟩;exact uT (Js r.BF r.k12 r.rp).2.1 (by simpa using e)
 rcases h.BF with⟨hd,e,J,hj,q⟩|⟨hd,e,hc,J,hj,q⟩|⟨hd,e⟩|⟨hd,e⟩
 ·exact main J hj q (by rw[e];decide) (Or.inl hd)
 ·exact main J hj q e (Or.inr hd)
 ·exact Or.inr ⟨by omega,by omega⟩
 ·exact Or.inr ⟨by omega,by omega⟩
theorem sT{V:MV}{p:Pl}(h:VI st n t V)(hd:V.Ae≠0)(hp:HI st n p)(ht:t<=70000)(hn:n<=1024):iD V p:=by
 obtain⟨h0,hb,hv⟩:=YW h hd hp;refine⟨hd,h0,We h.base Zo,cE h.base hb,(YH hp hb.b.2.1).1,λx hx=>?_,?_,xD hv Zo⟩
 ·have:=hp.Xo x hx;unfold Pl.BD;rw[hp.ns];simp;omega
 ·have:=hp.len;omega
theorem fV{V:MV}{o:A3}(h:VI st n t V)(h0:V.Ae=0)(ho:Sm st o)(ht:t<=70000):Vj V.M/\V.M.R.step=0/\ON (MV.Aj {V with op:=o,BF:=some (Xx.new V.st o),A5:=.zero} 1 AB):=by
 refine⟨We h.base Zo,?_,xD (ZK h h0 ho) Zo⟩;rcases h.at_ with h|h
 ·exact h.2
 ·rcases h.2.2 with h|h|h|h<;>(have:=h.1;omega)
end
theorem GB{w w':World}{b:Nat}(h:w'.heap[b]?=w.heap[b]?)(o:Nat):w'.cell? ⟨b,o,none⟩=w.cell? ⟨b,o,none⟩:=by
 unfold World.cell?;rw[h]
theorem NL{w:World}{E:TypeId}{sz n g off cap:Nat}{xs:List Value}(h:Own w E sz (.slice (some ⟨g,off,none⟩) n cap) n xs)(i:Nat):w.frozen? ⟨g,i,none⟩=false:=by
 rcases h.2 with⟨h0,_⟩|⟨g',off',cap',A,R,hv,hb,_⟩
 ·cases h0
 ·cases hv;exact hb.free i
def PaR(w:World)(gp gh:Nat)(P:Ai)(lab:Nat->Nat)(w':World):Prop:=
 ∃tv bv ro Fh Ft lab',Er w' gp gh P tv bv ro Fh Ft lab'/\DS (λb=>lab b<1000) w w'/\∀b,lab' b<1000->lab b<1000\/w.heap.size<=b
def Ai.queue(P:Ai)(k:Nat)(T:MT)(o:A3):Ai:={P with A8:=P.A8.set k {T with queue:=T.queue++[o],Cw:=T.Cw+1}}
theorem PI{w:World}{gp gh:Nat}{P:Ai}{tv bv:BA}{ro:List FG}{Fh:List Nat}{Ft:Nat->Nat->Prop}{lab:Nat->Nat}(h:Er w gp gh P tv bv ro Fh Ft lab)(he:AQ w){k:Nat}{T:MT}(hT:P.A8[k]?=some T)(o:A3)(hf:DR P.st o)(g0:0<=T.Cw)(g64:T.Cw<64)(hql:T.queue.length<=100000):
  Calls Tryz.prog 9 #[.pointer (some ⟨gp,0,none⟩),.int .i64 (k:Int),.agg o.l.toArray] w λen w'=>en=.returned .nilIface/\PaR w gp gh (P.queue k T o) lab w':=by
 have hk:k<P.A8.length:=by
  rcases Nat.lt_or_ge k P.A8.length with h|h
  ·exact h
  ·rw[List.getElem?_eq_none h] at hT;cases hT
 have hhas:P.has (k:Int)=true:=by unfold Ai.has;simp;omega
 obtain⟨kk,key,val,Ah⟩:=o
 show Calls Tryz.prog _ #[.pointer (some ⟨gp,0,none⟩),.int .i64 (k:Int),.agg #[.int .i64 kk,.int .i64 key,.int .i64 val,.int .i64 Ah]] w _
 obtain⟨g,off,c,rfl,hr,_⟩:=h.dG hk
 have hal:Below w.heap.size w (w.alloc (.cells #[.int .i64 kk,.int .i64 key,.int .i64 val,.int .i64 Ah] 35)):=(Below.refl _ _).alloc (Nat.le_refl _) _
 have HP:=Zh (h.cut.below hal)
 have HE:=Zh (he.below hal)
 have HX:=Zh (Bk.at_ (w:=w) (g:=w.heap.size) (cs:=#[.int .i64 kk,.int .i64 key,.int .i64 val,.int .i64 Ah]) (t:=35) rfl)
 have HC:=Zh hal
 have HF:=Zh hf
 have h40:=he.lt
 clear h he hal hf
 go_enter Tryz.func9,Tryz.ntmps9
 go_wp2
 generalize w.alloc (.cells #[.int .i64 kk,.int .i64 key,.int .i64 val,.int .i64 Ah] 35)=W at*
 have hh:∀w',Below W.heap.size W w'->Calls Tryz.prog 24 #[.pointer (some ⟨gp,0,none⟩),.int .i64 (k:Int)] w' (λen w''=>en=.returned (.bool true)/\w'=w''):=λw' hC=>by have:=MX (HP.out.below hC) (k:Int);rwa [hhas] at this
 (refine FI ((λw':World=>Below W.heap.size W w')) Zk Zk ((Below.refl _ _).drew) ?_;(repeat (first|go_big_quiet_skip|(go_big_quiet_want;first|(go_big_quiet_op;go_big_quiet_on)|(apply Exists.intro;refine⟨λw' hC=>?_,?_⟩;(· ((have q0:=(HP.out.below hC).bk.cell 0;simp at q0;have y0:=(HX.out.Ac hC).cell 0;have y1:=(HX.out.Ac hC).cell 1;have y2:=(HX.out.Ac hC).cell 2;have y3:=(HX.out.Ac hC).cell 3;simp at y0 y1 y2 y3);go_simp;first|done|rfl|exact⟨rfl,rfl⟩|((first|(go_at_call 24;(refine(hh w' hC).mono ?_);rintro e w'' ⟨rfl,rfl⟩;exact⟨rfl,hC⟩)|(go_at_call 25;(with_reducible refine(oQ HF.out (HE.out.below hC)).mono ?_);rintro e w'' ⟨rfl,hb⟩;exact⟨rfl,hC.trans (hb.mono hC.size)⟩)))));go_big_quiet_on;simp only[ZL]))));refine wpQuiet_nil ?_;intro w' hC)
 have HP1:=Zh (HP.out.below hC)
 have HX1:=Zh (HX.out.Ac hC)
 have HC1:=Zh (HC.out.trans (hC.mono HC.out.size))
 have hgx1:w.heap.size<w'.heap.size:=HX1.out.lt
 clear HP HE HX HC hC hh HF
 generalize w'=W1 at*
 clear W w'
 obtain⟨g',off',c',he',hr',hrow⟩:=HP1.out.dG hk
 cases he'
 have hth:=HP1.out.th k ro[k] T (List.getElem?_eq_getElem hr) hT
 obtain⟨t1,t2,Fv,hv,hq,hqF⟩:=hth
 have c2:=HP1.out.bk.cell 2
 simp[BA.v] at c2
 have r1:=hrow 1 _ rfl;have r2:=hrow 2 _ rfl
 simp[FG.l,t1] at r1 r2
 have HT:=Zh (And.intro t1 (And.intro t2 (And.intro hv (And.intro hq hqF))))
 clear t1 t2 hv hq hqF hrow
 go_wp2
 have hqo:=HT.out.2.2.2.1
 obtain⟨u,w7,hrun,ho,hg,hfr⟩:=NK (W1.drew.alloc (.cells #[.int .i64 kk,.int .i64 key,.int .i64 val,.int .i64 Ah] 35)) ro[k].q.v T.queue (hqo.drew.alloc _) hql ⟨kk,key,val,Ah⟩ W1.heap.size (Bk.at_ rfl) 22
 obtain⟨ua,uc,rfl,_⟩:=Yq ho
 have e1:=HP1.out.l0
 have Oo:=HP1.out.Oo
 have lq:∀b,ro[k].q.v.ownBlock=some b->(if b<w.heap.size then lab b else 1000)=4+k:=λb hb=>HP1.out.l4 k b hk ((HT.out.2.2.2.2.2 b).2 (Or.inr hb))
 have lg:(if g<w.heap.size then lab g else 1000)=1:=HP1.out.l1 g rfl
 have ngq:ro[k].q.v.ownBlock≠some g:=λe=>by have:=lq g e;omega
 have ngx:ro[k].q.v.ownBlock≠some w.heap.size:=λe=>by have:=lq _ e;rw[if_neg Zo] at this;omega
 have hgl:g<W1.heap.size:=HP1.out.KB.lt rfl
 have X7:Bk w7 w.heap.size 35 #[.int .i64 kk,.int .i64 key,.int .i64 val,.int .i64 Ah]:=(HX1.out.drew.alloc _).grown hg (λe=>ngx e.symm)
 have cg:∀i,w7.cell? ⟨g,i,none⟩=W1.cell? ⟨g,i,none⟩:=λi=>(GB (hg.block g (by simp;omega) (λe=>ngq e.symm)) i).trans (World.cell?_alloc_lt W1.drew _ ⟨g,i,none⟩ (by simpa using hgl))
 have r1':=(cg (off+k*4+1)).trans r1
 have r2':=(cg (off+k*4+2)).trans r2
 have T7:=HP1.out.KB.drew.alloc (.cells #[.int .i64 kk,.int .i64 key,.int .i64 val,.int .i64 Ah] 35)
 replace T7:=T7.grown hg (Or.inr λe=>ngq (by rw[←e];rfl))
 have ef:ro.length=P.A8.length:=HP1.out.len
 rw[ef] at T7
 have f1:=NL T7 (off+k*4+1)
 have HO:=Zh (And.intro ho (And.intro hg hfr))
 clear ho hg hfr hqo
 generalize hfl:(T.queue++[(⟨kk,key,val,Ah⟩:A3)]).length=fl at*
 refine X8 (λw'=>Bk w' w.heap.size 35 #[.int .i64 kk,.int .i64 key,.int .i64 val,.int .i64 Ah]/\w'.cell? ⟨g,off+k*4+1,none⟩=some ro[k].q.v) 8 Zk ⟨HX1.out.drew,r1⟩ (λhS=>?_)
 ((try simp only[ZL]);refine vT (fuel:=5) hS [0,1,2,3,4,5] ?_;simp only[Xy,Xr,List.toList_toArray];(repeat (first|go_big_quiet_skip|(go_big_quiet_want;first|(go_big_quiet_op;go_big_quiet_on)|(apply Exists.intro;refine⟨λw' hS'=>?_,?_⟩;(· ((have q0:=hS'.2;have y0:=hS'.1.cell 0;have y1:=hS'.1.cell 1;have y2:=hS'.1.cell 2;have y3:=hS'.1.cell 3;simp at y0 y1 y2 y3);go_simp;first|done|rfl|exact⟨rfl,rfl⟩));go_big_quiet_on;simp only[ZL]))));refine wpQuiet_nil ?_;(try dsimp only))
 (refine Xi 6 Zk (λK hK=>?_);simp only[Xr,List.toList_toArray])
 go_wp2_with fail
 refine hK.out _ _ (λ_=>⟨HX1.out.drew.alloc _,(World.cell?_alloc_lt W1.drew _ ⟨g,off+k*4+1,none⟩ (by simpa using hgl)).trans r1⟩) ?_
 clear hK hS
 have hS:=And.intro (HX1.out.drew.alloc (.cells #[.int .i64 kk,.int .i64 key,.int .i64 val,.int .i64 Ah] 35)) ((World.cell?_alloc_lt W1.drew (.cells #[.int .i64 kk,.int .i64 key,.int .i64 val,.int .i64 Ah] 35) ⟨g,off+k*4+1,none⟩ (by simpa using hgl)).trans r1)
 (refine Xi 7 Zk (λK hK=>?_);simp only[Xr,List.toList_toArray])
 go_wp2_with (at_builtin;refine Ya Zr _ _ _ _ _ _ _ Zr Zr Zr hrun ?_)
 refine hK.out _ _ (λ_=>⟨X7,r1'⟩) ?_
 clear hK hS
 have hS:=And.intro X7 r1'
 ((refine Xi 8 Zk (λK hK=>?_);simp only[Xr,List.toList_toArray]);go_wp2_with fail;refine hK.out _ _ (λh=>absurd h Zo) ?_;clear hK)
 ((refine Xi 9 Zk (λK hK=>?_);simp only[Xr,List.toList_toArray]);go_wp2_with fail;refine hK.out _ _ (λh=>absurd h Zo) ?_;clear hK)
 (refine Xi 10 Zk (λK hK=>?_);simp only[Xr,List.toList_toArray])
 go_wp2
 refine hK.out _ _ (λh=>absurd h Zo) ?_
 clear hK hS
 refine Ye Zk ?_ _
 rw[←ef] at T7
 have T8:=MQ TD T7 k hr 1 (.slice ua fl uc) {ro[k] with q:=⟨ua,fl,uc⟩} rfl Zd
 have T9:=MQ TD T8 k (by rw[List.length_set];exact hr) 2 (.int .i64 (T.Cw+1)) {ro[k] with q:=⟨ua,fl,uc⟩,Cw:=T.Cw+1} (by rw[List.getElem_set_self];rfl) Zd
 have f2:=NL T8 (off+k*4+2)
 have r2'':(w7.setCell ⟨g,off+k*4+1,none⟩ (.slice ua fl uc)).cell? ⟨g,off+k*4+2,none⟩=some (.int .i64 T.Cw):=(World.cell?_setCell_other (w:=w7) (a:=⟨g,off+k*4+1,none⟩) (b:=⟨g,off+k*4+2,none⟩) (v:=.slice ua fl uc) (λh=>by injection h with h1 h2 h3;omega)).trans r2'
 have HT9:=Zh T9
 clear T7 T8 T9 f1 r1' r2' cg X7
 generalize hW8:w7.setCell ⟨g,off+k*4+1,none⟩ (.slice ua fl uc)=W8 at*
 go_wp2
 go_ret
 generalize hW9:W8.setCell ⟨g,off+k*4+2,none⟩ (.int .i64 (T.Cw+1))=W9 at*
 have hz7:W1.heap.size+1<=w7.heap.size:=by have:=HO.out.2.1.size;simpa using this
 have hz9:W9.heap.size=w7.heap.size:=by rw[←hW9,←hW8];simp[World.setCell]
 have g78:=Xs w7 g (off+k*4+1) (.slice ua fl uc)
 rw[hW8] at g78
 have g89:=Xs W8 g (off+k*4+2) (.int .i64 (T.Cw+1))
 rw[hW9] at g89
 have hz8:w7.heap.size<=W8.heap.size:=g78.size
 have Ax:∀b,b<W1.heap.size->b≠g->ro[k].q.v.ownBlock≠some b->W9.heap[b]?=W1.heap[b]?:=λb hb h1 h2=>
  (g89.block b Zo (λe=>h1 (by cases e;rfl))).trans ((g78.block b Zo (λe=>h1 (by cases e;rfl))).trans ((HO.out.2.1.block b (by simp;omega) (λe=>h2 e.symm)).trans (Below.heap_alloc W1.drew _ b hb)))
 have ub:∀b,(Value.slice ua fl uc).ownBlock=some b->ro[k].q.v.ownBlock=some b\/W1.heap.size<=b:=λb hb=>(HO.out.2.2 b hb).imp id λh=>by simp at h;omega
 have lbl:∀b c,(if b<w.heap.size then lab b else 1000)=c->c≠1->c≠4+k->b<W1.heap.size->W9.heap[b]?=W1.heap[b]?:=λb c e c1 c4 hb=>Ax b hb (λe'=>c1 (by rw[←e,e',lg])) λe'=>c4 (by rw[←e,lq b e'])
 have hu:∀b,(Value.slice ua fl uc).ownBlock=some b->(if b<w.heap.size then lab b else 1000)=4+k\/W1.heap.size<=b:=λb hb=>(ub b hb).imp (lq b) id
 have hung:(Value.slice ua fl uc).ownBlock≠some g:=λe=>(ub g e).elim ngq λh=>by omega
 have hFv:∀b,Fv b->(if b<w.heap.size then lab b else 1000)=4+k:=λb hb=>HP1.out.l4 k b hk ((HT.out.2.2.2.2.2 b).2 (Or.inl hb))
 have hFlt:∀b,Fv b->b<W1.heap.size:=HT.out.2.2.1.lt
 have KB:=HT9.out
 rw[List.set_set,List.length_set,ef] at KB
 obtain⟨Ft',lab',p1,p2⟩:=HP1.out.Ap (w2:=W9) (P':=P.queue k T ⟨kk,key,val,Ah⟩) (bv':=bv) (Fh':=Fh) (ro':=ro.set k {ro[k] with q:=⟨ua,fl,uc⟩,Cw:=T.Cw+1}) (F':=λb=>Fv b\/(Value.slice ua fl uc).ownBlock=some b) (T':={T with queue:=T.queue++[⟨kk,key,val,Ah⟩],Cw:=T.Cw+1}) (r':={ro[k] with q:=⟨ua,fl,uc⟩,Cw:=T.Cw+1}) hk rfl rfl rfl
  (HP1.out.bk.same (lbl gp 0 HP1.out.l0 Zd Zo HP1.out.bk.lt)) (by rw[List.length_set,ef];exact KB) (HP1.out.K4.kept λb hb=>lbl b 2 (HP1.out.l2 b hb) Zd Zo (HP1.out.K4.lt hb))
  (HP1.out.hp.same λb hb=>lbl b 3 (HP1.out.l3 b hb) Zd Zo (HP1.out.hp.lt b hb))
  ⟨rfl,HT.out.2.1,Fv,HT.out.2.2.1.AG fun b hb=>Ax b (hFlt b hb) (fun e=>by have:=hFv b hb;rw [e,lg] at this;omega) (HT.out.2.2.2.2.1 b hb),by show Own W9 _ 4 _ (T.queue++[_]).length _;rw [hfl];exact (HO.out.1.grown g78 (Or.inr hung)).grown g89 (Or.inr hung),
   λb hb e=>(ub b e).elim (HT.out.2.2.2.2.1 b hb) λh=>by have:=hFlt b hb;omega,λ_=>Iff.rfl⟩
  (λi b hi hl hb=>lbl b (4+i) (HP1.out.l4 i b hl hb) Zo Zo (HP1.out.fG hl b hb)) Zo Zo
  (λb hb=>Or.inl (HP1.out.l2 b hb)) (λb hb=>Or.inl (HP1.out.l3 b hb)) (λb hb=>Or.inr (hb.elim (λh=>Or.inl (hFv b h)) (hu b)))
  (λb h2 h3=>by have:=HP1.out.l2 b h2;have:=HP1.out.l3 b h3;omega)
  (λb h2 h4=>by have h2':=HP1.out.l2 b h2;exact h4.elim (λh4=>by have:=hFv b h4;omega) λh4=>(hu b h4).elim (λh=>by omega) λh=>by have:=HP1.out.K4.lt h2;omega)
  (λb h3 h4=>by have h3':=HP1.out.l3 b h3;exact h4.elim (λh4=>by have:=hFv b h4;omega) λh4=>(hu b h4).elim (λh=>by omega) λh=>by have:=HP1.out.hp.lt b h3;omega)
 have hzw:w.heap.size<=W1.heap.size:=HC1.out.size
 refine⟨rfl,_,_,_,_,_,_,p1,⟨g89.os.trans (g78.os.trans (HO.out.2.1.os.trans HC1.out.os)),g89.tape.trans (g78.tape.trans (HO.out.2.1.tape.trans HC1.out.tape)),g89.output.trans (g78.output.trans (HO.out.2.1.output.trans HC1.out.output)),by omega,λb hb hf=>?_⟩,λb hb=>?_⟩
 ·refine(Ax b Zo (λe=>hf ?_) λe=>hf ?_).trans (HC1.out.block b hb)
  ·have:=lg;rw[←e,if_pos hb] at this;omega
  ·have:=lq b e;rw[if_pos hb] at this;omega
 ·rcases p2 b hb with h|h
  ·by_cases hx:b<w.heap.size
   ·rw[if_pos hx] at h;exact Or.inl h
   ·exact Or.inr Zo
  ·exact Or.inr Zo
def PaS(w:World)(gp gh:Nat)(P:Ai)(tv bv:BA)(ro:List FG)(lab:Nat->Nat)(w':World):Prop:=
 ∃Fh Ft lab',Er w' gp gh P tv bv ro Fh Ft lab'/\DS (λb=>lab b<1000) w w'/\∀b,lab' b<1000->lab b<1000\/w.heap.size<=b
def Ai.kY(P:Ai)(k:Nat)(T:MT)(V:MV):Ai:={P with A8:=P.A8.set k {T with V:=V}}
section
variable{w w':World}{gp gh:Nat}{P:Ai}{tv bv:BA}{ro:List FG}{Fh:List Nat}{Ft:Nat->Nat->Prop}{lab:Nat->Nat}{k:Nat}{T:MT}
theorem Bd{α:Type}{l:List α}{k:Nat}{x:α}(h:l[k]?=some x):k<l.length:=by
 rcases Nat.lt_or_ge k l.length with h'|h'
 ·exact h'
 ·rw[List.getElem?_eq_none h'] at h;cases h
theorem Er.upV(h:Er w gp gh P tv bv ro Fh Ft lab)(h40:7<=w.heap.size)(hT:P.A8[k]?=some T)(hr:k<ro.length){V':MV}{p':Pl}{Fv Fv':Nat->Prop}{Fh':List Nat}
  (hF:∀b,Ft k b↔Fv b\/ro[k].q.v.ownBlock=some b)(hFv:∀b,Fv b->ro[k].q.v.ownBlock≠some b)(hV:VB w' ro[k].gv V' Fv')(hp:OL w' gh p' Fh')(nV:∀b,Fv' b->Fv b\/b∈Fh\/w.heap.size<=b)(nh:∀b∈Fh',Fv b\/b∈Fh\/w.heap.size<=b)(dj:∀b∈Fh',¬Fv' b)
  (hc:DS (λb=>Fv b\/b∈Fh) w w'):PaS w gp gh {P with heap:=p',A8:=P.A8.set k {T with V:=V'}} tv bv ro lab w':=by
 have hk:=Bd hT
 have Oo:=h.Oo
 obtain⟨t1,t2,Fv0,hv0,hq,hq1,hq2⟩:=h.th k ro[k] T (List.getElem?_eq_getElem hr) hT
 have l4:∀b,Fv b->lab b=4+k:=λb hb=>h.l4 k b hk ((hF b).2 (Or.inl hb))
 have lq:∀b,ro[k].q.v.ownBlock=some b->lab b=4+k:=λb hb=>h.l4 k b hk ((hF b).2 (Or.inr hb))
 have Ax:∀b c,lab b=c->c≠3->c≠4+k->b<w.heap.size->w'.heap[b]?=w.heap[b]?:=λb c e c3 c4 hb=>hc.Ax b hb λhx=>by
  rcases hx with hx|hx
  ·exact c4 (by rw[←e,l4 b hx])
  ·exact c3 (by rw[←e,h.l3 b hx])
 have qfar:∀b,ro[k].q.v.ownBlock=some b->w'.heap[b]?=w.heap[b]?:=λb hb=>hc.Ax b (hq.lt hb) λhx=>by
  rcases hx with hx|hx
  ·exact hFv b hx hb
  ·have:=h.l3 b hx;have:=lq b hb;omega
 have nV':∀b,Fv' b->lab b=3\/lab b=4+k\/w.heap.size<=b:=λb hb=>(nV b hb).elim (λh'=>Or.inr (Or.inl (l4 b h'))) λh'=>h'.imp (h.l3 b) Or.inr
 have n3:∀b∈Fh',lab b=3\/lab b=4+k\/w.heap.size<=b:=λb hb=>(nh b hb).elim (λh'=>Or.inr (Or.inl (l4 b h'))) λh'=>h'.imp (h.l3 b) Or.inr
 obtain⟨Ft',lab',p1,p2⟩:=h.Ap (w2:=w') (P':={P with heap:=p',A8:=P.A8.set k {T with V:=V'}}) (bv':=bv) (Fh':=Fh') (ro':=ro) (r':=ro[k]) (T':={T with V:=V'}) (F':=λb=>Fv' b\/ro[k].q.v.ownBlock=some b) hk rfl Zs rfl
  (h.bk.same (Ax gp 0 h.l0 Zd Zo h.bk.lt)) (h.KB.kept λb hb=>Ax b 1 (h.l1 b hb) Zd Zo (h.KB.lt hb)) (h.K4.kept λb hb=>Ax b 2 (h.l2 b hb) Zd Zo (h.K4.lt hb)) hp
  ⟨t1,t2,Fv',hV,hq.kept qfar,λb hb e=>(nV b hb).elim (λh'=>hFv b h' e) λh'=>h'.elim (λh'=>by have:=h.l3 b h';have:=lq b e;omega) λh'=>by have:=hq.lt e;omega,λ_=>Iff.rfl⟩
  (λi b hi hl hb=>Ax b (4+i) (h.l4 i b hl hb) Zo Zo (h.fG hl b hb)) hc.size h40
  (λb hb=>Or.inl (h.l2 b hb)) n3 (λb hb=>hb.elim (nV' b) λh'=>Or.inr (Or.inl (lq b h')))
  (λb h2 h3=>by have e2:=h.l2 b h2;have:=h.K4.lt h2;have:=n3 b h3;omega)
  (λb h2 h4=>by have e2:=h.l2 b h2;have:=h.K4.lt h2;exact h4.elim (λh4=>by have:=nV' b h4;omega) λh4=>by have:=lq b h4;omega)
  (fun b h3 h4=>h4.elim (fun h4=>dj b h3 h4) fun h4=>by
   have e4:=lq b h4;have hlt:=hq.lt h4;rcases nh b h3 with h'|h'|h'
   ·exact hFv b h' h4
   ·have:=h.l3 b h';omega
   ·omega)
 refine⟨Fh',Ft',lab',p1,⟨hc.os,hc.tape,hc.output,hc.size,λb hb hf=>hc.Ax b hb λhx=>hf ?_⟩,p2⟩
 rcases hx with hx|hx
 ·have:=l4 b hx;omega
 ·have:=h.l3 b hx;omega
theorem uR(h:Er w gp gh P tv bv ro Fh Ft lab)(he:AQ w)(hT:P.A8[k]?=some T)(hr:k<ro.length)(o:A3)(hf:DR T.V.st o)(hd:T.V.Ae=0)(ok:Vj T.V.M)(hs:T.V.M.R.step=0)
  (hgo:ON (MV.Aj {T.V with op:=o,BF:=some (Xx.new T.V.st o),A5:=.zero} 1 AB)):
  Calls Tryz.prog 36 #[.pointer (some ⟨ro[k].gv,0,none⟩),.agg o.l.toArray] w λen w'=>en=.returned .nilIface/\PaS w gp gh (P.kY k T (T.V.Jw o)) tv bv ro lab w':=by
 have hk:=Bd hT
 obtain⟨t1,t2,Fv,hv,hq,hq1,hq2⟩:=h.th k ro[k] T (List.getElem?_eq_getElem hr) hT
 obtain⟨gr,jv,F1,b1,b2,b3,b4⟩:=id hv
 refine(oK T.V o ro[k].gv gr jv w F1 he hf hd b1 b2 b3 ok hs hgo).mono λen w' hp=>?_
 obtain⟨jw,p1,p2,p3,F',p4,p5,p6,p7⟩:=hp
 have hFlt:∀b,Fv b->b<w.heap.size:=hv.lt
 have hl4:∀b,Fv b->lab b=4+k:=λb hb=>h.l4 k b hk ((hq2 b).2 (Or.inl hb))
 have hcc:DS Fv w w':=⟨p3.os,p3.tape,p3.output,p3.size,λb hb hf=>p3.Ax b hb λhx=>hf ((b4 b).2 hx)⟩
 have hpb:OL w' gh P.heap Fh:=h.hp.same λb hb=>hcc.Ax b (h.hp.lt b hb) λhx=>by have:=hl4 b hx;have:=h.l3 b hb;omega
 have hgv:Fv ro[k].gv:=(b4 _).2 (Or.inl rfl)
 refine⟨p1,h.upV he.lt hT hr hq2 hq1 (V':=T.V.Jw o) (Fv':=λb=>b=ro[k].gv\/F' b) ⟨gr,jw,F',p2,p4,p5,λ_=>Iff.rfl⟩ hpb (λb hb=>?_) (λb hb=>Or.inr (Or.inl hb)) (λb hb hx=>?_) ⟨hcc.os,hcc.tape,hcc.output,hcc.size,λb hb hf=>hcc.Ax b hb λhx=>hf (Or.inl hx)⟩⟩
 ·rcases hb with rfl|hb
  ·exact Or.inl hgv
  ·exact(p7 b hb).elim (λh'=>Or.inl ((b4 b).2 (Or.inr h'))) λh'=>Or.inr (Or.inr h')
 ·have h3:=h.l3 b hb;have hlt:=h.hp.lt b hb;rcases hx with rfl|hx
  ·have:=hl4 _ hgv;omega
  ·rcases p7 b hx with h'|h'
   ·have:=hl4 b ((b4 b).2 (Or.inr h'));omega
   ·omega
theorem YZ(h:Er w gp gh P tv bv ro Fh Ft lab)(he:AQ w)(hT:P.A8[k]?=some T)(hr:k<ro.length)(ok:iD T.V P.heap):
  Calls Tryz.prog 37 #[.pointer (some ⟨ro[k].gv,0,none⟩),.pointer (some ⟨gh,0,none⟩)] w λen w'=>en=.returned (.tuple #[.agg (T.V.step P.heap).2.2.l.toArray,.nilIface])/\
   PaS w gp gh {P with heap:=(T.V.step P.heap).2.1,A8:=P.A8.set k {T with V:=(T.V.step P.heap).1}} tv bv ro lab w':=by
 have hk:=Bd hT
 obtain⟨t1,t2,Fv,hv,hq,hq1,hq2⟩:=h.th k ro[k] T (List.getElem?_eq_getElem hr) hT
 obtain⟨gr,jv,F1,b1,b2,b3,b4⟩:=id hv
 have hl4:∀b,Fv b->lab b=4+k:=λb hb=>h.l4 k b hk ((hq2 b).2 (Or.inl hb))
 have hF1:∀b,F1 b->lab b=4+k:=λb hb=>hl4 b ((b4 b).2 (Or.inr hb))
 have hgv:Fv ro[k].gv:=(b4 _).2 (Or.inl rfl)
 have Oo:=h.Oo
 have low:∀b,lab b<1000->7<=b:=λb hb=>by
  rcases Nat.lt_or_ge b 7 with h'|h'
  ·have:=h.low b h';omega
  ·exact h'
 have hRP:RP w gr jv gh T.V.M T.V.BF P.heap w (λb=>F1 b\/b∈Fh\/b<7):=⟨λ_ _=>rfl,F1,Fh,b2,h.hp,λb hb hx=>by have:=hF1 b hb;have:=h.l3 b hx;omega,λb hb=>low b (by have:=hF1 b hb;omega),λb hb=>low b (by have:=h.l3 b hb;omega),λ_=>Iff.rfl⟩
 refine(kJ T.V P.heap ro[k].gv gr gh jv w w _ he b1 hRP (λhx=>?_) ok).mono λen w' hp=>?_
 ·rcases hx with hx|hx|hx
  ·exact b3 hx
  ·have:=hl4 _ hgv;have:=h.l3 _ hx;omega
  ·have:=low _ (by have:=hl4 _ hgv;omega:lab ro[k].gv<1000);omega
 ·obtain⟨p1,p2,p3,F',⟨q0,F2,Fh',q1,q2,q3,q4,q5,q6⟩,p5,p6⟩:=hp;have n2:∀b,7<=b->F' b->Fv b\/b∈Fh\/w.heap.size<=b:=λb h40 hb=>by
   rcases p6 b hb with(h'|h'|h')|h'
   ·exact Or.inl ((b4 b).2 (Or.inr h'))
   ·exact Or.inr (Or.inl h')
   ·omega
   ·exact Or.inr (Or.inr h')
  refine⟨p1,h.upV he.lt hT hr hq2 hq1 (V':=(T.V.step P.heap).1) (Fv':=λb=>b=ro[k].gv\/F2 b) ⟨gr,jv,F2,p2,q1,λhx=>p5 ((q6 _).2 (Or.inl hx)),λ_=>Iff.rfl⟩ q2 (λb hb=>?_) (λb hb=>n2 b (q5 b hb) ((q6 b).2 (Or.inr (Or.inl hb)))) (λb hb hx=>?_) ⟨p3.os,p3.tape,p3.output,p3.size,λb hb hf=>?_⟩⟩
  ·rcases hb with rfl|hb
   ·exact Or.inl hgv
   ·exact n2 b (q4 b hb) ((q6 b).2 (Or.inl hb))
  ·rcases hx with rfl|hx
   ·exact p5 ((q6 _).2 (Or.inr (Or.inl hb)))
   ·exact q3 b hx hb
  ·by_cases h40:b<7
   ·exact q0 b h40
   ·refine p3.Ax b hb λhx=>hf ?_;rcases hx with rfl|hx|hx|hx
    ·exact Or.inl hgv
    ·exact Or.inl ((b4 b).2 (Or.inr hx))
    ·exact Or.inr hx
    ·exact absurd hx h40
end
end Go.Proofs.YtaipogljokblkaaGreatDoor
