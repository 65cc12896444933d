/-
 Contracts. Conditions: those of each.
-/
import Derived.Test.YtkolcimllghnaaaGreatDoorRows
import Derived.WalkKit
import Derived.WalkSpells
import Derived.WalkLawsBesides
import Derived.Lib.Hide
import Derived.Lib.AppendStr
import Derived.Maps.AppendAt
import Derived.Deep.AppendLies
import Derived.Deep.Onto
import Derived.Laws.BytesArg
import Derived.RowKit
import Derived.IntWalk
import Derived.Laws.RangeAny
import Derived.Below
import Derived.Lib.ValidU
import Derived.Lib.ValidLaws
import Derived.Lib.TrimUEq
import Derived.KernelRfl
set_option maxRecDepth 100000
set_option maxHeartbeats 8000000
namespace Go.Proofs.YtkolcimllghnaaaGreatDoor
open Go.Proofs.Tryz
open Go.RowKit
instance:Coe World Nat:=⟨λw=>w.heap.size⟩
instance:Coe Nat Value:=⟨λg=>.pointer (some ⟨g,0,none⟩)⟩
instance:Coe World Value:=⟨λw=>.pointer (some ⟨w.heap.size,0,none⟩)⟩
instance:Coe (List UInt8) ByteArray:=⟨λs=>⟨s.toArray⟩⟩
instance:Coe ByteArray Value:=⟨.string⟩
instance:Coe (List UInt8) Value:=⟨λs=>.string ⟨s.toArray⟩⟩
instance:CoeDep Unit () Value:=⟨.string ⟨#[]⟩⟩
instance:Coe Bool Value:=⟨.bool⟩
instance:Coe Int Value:=⟨.int .i64⟩
section
variable{a:Prop}
theorem eh(k:a:=by rfl):a:=k
theorem aa(k:a:=by simp):a:=k
theorem ac(k:a:=by omega):a:=k
theorem am(k:a:=by decide):a:=k
theorem ch(k:a:=by rw [h]):a:=k
theorem de(k:a:=by go_num):a:=k
theorem lq(k:a:=by cases h):a:=k
theorem oo(k:a:=by go_simp):a:=k
theorem IR(k:a:=by cases hx):a:=k
theorem OH(k:a:=by rw [hnx]):a:=k
theorem nj(k:a:=by rw [hq6]):a:=k
theorem GO(k:a:=by simp [h1]):a:=k
theorem IJ(k:a:=by simp [dR]):a:=k
theorem QB(k:a:=by simp [hf]):a:=k
theorem ar(k:a:=by simp at h):a:=k
theorem bt(k:a:=by simp [cJ]):a:=k
theorem da(k:a:=by exact κ h):a:=k
theorem lz(k:a:=by simp [zK]):a:=k
theorem ma(k:a:=by simp [aO]):a:=k
theorem PQ(k:a:=by simp [hsz]):a:=k
theorem ah(k:a:=by exact this):a:=k
theorem aj(k:a:=by kernel_rfl):a:=k
theorem bl(k:a:=by simp;omega):a:=k
theorem bo(k:a:=by simp at hk):a:=k
theorem dd(k:a:=by exact hrel):a:=k
theorem dm(k:a:=by exact κ hb):a:=k
theorem ef(k:a:=by exact κ hp):a:=k
theorem lc(k:a:=by exact HR.o):a:=k
theorem lf(k:a:=by exact κ hS):a:=k
theorem lp(k:a:=by rw [h];rfl):a:=k
theorem mh(k:a:=by exact κ hf):a:=k
theorem mi(k:a:=by exact κ hq):a:=k
theorem mv(k:a:=by exact h.lt):a:=k
theorem pc(k:a:=by rw [e];rfl):a:=k
theorem sn(k:a:=by exact hcut):a:=k
theorem AD(k:a:=by exact hLF.z):a:=k
theorem BM(k:a:=by exact κ hL7):a:=k
theorem EK(k:a:=by rw [HG.o.1]):a:=k
theorem nr(k:a:=by rw [hk];rfl):a:=k
theorem sv(k:a:=by exact κ hb0):a:=k
theorem sw(k:a:=by exact β hz0):a:=k
theorem sx(k:a:=by exact β hx0):a:=k
theorem zg(k:a:=by exact κ hp0):a:=k
theorem zh(k:a:=by exact κ hA0):a:=k
theorem AM(k:a:=by rw [hts];rfl):a:=k
theorem GN(k:a:=by exact nil_ne):a:=k
theorem cq(k:a:=by exact β h1 0):a:=k
theorem ee(k:a:=by exact β h1 1):a:=k
theorem vt(k:a:=by exact β q1 3):a:=k
theorem FE(k:a:=by rw [HF.o];rfl):a:=k
theorem FF(k:a:=by simp [maxLen]):a:=k
theorem FQ(k:a:=by rw [HR.o];rfl):a:=k
theorem LU(k:a:=by exact f1 2 ac):a:=k
theorem LY(k:a:=by exact f1 8 ac):a:=k
theorem LZ(k:a:=by exact f1 1 ac):a:=k
theorem MA(k:a:=by exact f1 9 ac):a:=k
theorem MM(k:a:=by exact f1 7 ac):a:=k
theorem MN(k:a:=by exact f1 6 ac):a:=k
theorem MO(k:a:=by exact f1 5 ac):a:=k
theorem MP(k:a:=by exact f1 4 ac):a:=k
theorem MQ(k:a:=by exact f1 3 ac):a:=k
theorem MR(k:a:=by exact f1 0 ac):a:=k
theorem an(k:a:=by simpa using h):a:=k
theorem cw(k:a:=by exact ⟨_,rfl⟩):a:=k
theorem dk(k:a:=by rw [HQ.o];rfl):a:=k
theorem dp(k:a:=by exact ⟨_,g,h⟩):a:=k
theorem fw(k:a:=by show _=_;simp):a:=k
theorem oa(k:a:=by exact β hx1 0):a:=k
theorem oe(k:a:=by exact β hx0 0):a:=k
theorem oy(k:a:=by simp [go_sem]):a:=k
theorem vy(k:a:=by exact ⟨ac,ac⟩):a:=k
theorem DV(k:a:=by rw [f3];decide):a:=k
theorem DW(k:a:=by rw [f2];decide):a:=k
theorem EZ(k:a:=by rw [HF.o];simp):a:=k
theorem GH(k:a:=by rw [HR.o,HV.o]):a:=k
theorem KP(k:a:=by rw [mS,gM hr2]):a:=k
theorem LV(k:a:=by exact HS.o.at_):a:=k
theorem MB(k:a:=by exact f1 10 ac):a:=k
theorem ME(k:a:=by exact f1 12 ac):a:=k
theorem ML(k:a:=by exact f1 11 ac):a:=k
theorem NB(k:a:=by exact ⟨FE,rfl⟩):a:=k
theorem NR(k:a:=by rw [hE];decide):a:=k
theorem OB(k:a:=by exact gK hown2):a:=k
theorem ab(k:a:=by exact .inl rfl):a:=k
theorem aw(k:a:=by simp [px] at h):a:=k
theorem ay(k:a:=by simp [pl] at h):a:=k
theorem az(k:a:=by simp [pa] at h):a:=k
theorem db(k:a:=by simpa using h2):a:=k
theorem ec(k:a:=by exact ⟨rfl,hx⟩):a:=k
theorem er(k:a:=by exact hn.no hq):a:=k
theorem fg(k:a:=by exact ⟨rfl,hb⟩):a:=k
theorem ft(k:a:=by simpa using h3):a:=k
theorem fu(k:a:=by simpa using h1):a:=k
theorem fv(k:a:=by simpa using h0):a:=k
theorem ll(k:a:=by simpa using hj):a:=k
theorem lu(k:a:=by simpa using he):a:=k
theorem mg(k:a:=by simpa using hc):a:=k
theorem mq(k:a:=by simpa using hi):a:=k
theorem og(k:a:=by rw [hw];decide):a:=k
theorem sq(k:a:=by exact hS.cells):a:=k
theorem ue(k:a:=by exact h2.front):a:=k
theorem uk(k:a:=by show b≠g;omega):a:=k
theorem vn(k:a:=by show B≠G;omega):a:=k
theorem zo(k:a:=by rw [f0];decide):a:=k
theorem zr(k:a:=by rw [f1];decide):a:=k
theorem AE(k:a:=by exact hLF.cells):a:=k
theorem EL(k:a:=by exact ⟨FQ,HB.o⟩):a:=k
theorem GU(k:a:=by show _=39;omega):a:=k
theorem KJ(k:a:=by rw [γ];exact h6):a:=k
theorem MI(k:a:=by exact κ HS.o.xt):a:=k
theorem PD(k:a:=by rw [bne,eb];rfl):a:=k
theorem PT(k:a:=by rw [hsz];decide):a:=k
theorem cm(k:a:=by exact ⟨rfl,rfl⟩):a:=k
theorem eu(k:a:=by exact hn.yes hq):a:=k
theorem ib(k:a:=by exact aQ hT hb0):a:=k
theorem ik(k:a:=by exact aQ hT0 b1):a:=k
theorem im(k:a:=by exact aA hx0 b1):a:=k
theorem kb(k:a:=by rw [bne,n1];rfl):a:=k
theorem kf(k:a:=by rw [bne,e1];rfl):a:=k
theorem kh(k:a:=by rw [bne,e3];rfl):a:=k
theorem ur(k:a:=by rw [bne,e2];rfl):a:=k
theorem xu(k:a:=by exact hL5.cells):a:=k
theorem EA(k:a:=by have:=Dt x;omega):a:=k
theorem IL(k:a:=by simp [Lp.X.size]):a:=k
theorem JA(k:a:=by have:=h4.1;omega):a:=k
theorem KQ(k:a:=by rw [mS,HR.o.2.2]):a:=k
theorem LA(k:a:=by exact sD ac ac _):a:=k
theorem NA(k:a:=by rw [HSZ.o];omega):a:=k
theorem ao(k:a:=by simp at hk;omega):a:=k
theorem dn(k:a:=by exact ⟨4,rfl,am⟩):a:=k
theorem gc(k:a:=by rw [HSS.o];omega):a:=k
theorem ia(k:a:=by exact gO hd1 hd2):a:=k
theorem ot(k:a:=by simp at hl;omega):a:=k
theorem pd(k:a:=by exact β hi.hbp 0):a:=k
theorem qx(k:a:=by have:=HL.o;omega):a:=k
theorem si(k:a:=by rw [<-h0];exact h):a:=k
theorem sk(k:a:=by exact HS.o.cells):a:=k
theorem sm(k:a:=by exact ⟨rfl,HB.o⟩):a:=k
theorem tw(k:a:=by exact ⟨rfl,HX.o⟩):a:=k
theorem vl(k:a:=by show B≠B+1;omega):a:=k
theorem GG(k:a:=by rw [bne,η h2];rfl):a:=k
theorem GS(k:a:=by rw [e,hne _ _ hn]):a:=k
theorem GT(k:a:=by exact ⟨op,rfl,GS⟩):a:=k
theorem ly(k:a:=by exact hcl hx hy h):a:=k
theorem qy(k:a:=by exact ⟨rfl,_,rfl⟩):a:=k
theorem re(k:a:=by exact β H.o.box 1):a:=k
theorem ub(k:a:=by exact qT _ g w am):a:=k
theorem vv(k:a:=by exact h.below hb0):a:=k
theorem wt(k:a:=by simp at hrl;omega):a:=k
theorem GI(k:a:=by rw [HR.o,HV.o];rfl):a:=k
theorem JI(k:a:=by rw [hul];exact ho7):a:=k
theorem OP(k:a:=by rw [hnx];exact hE0):a:=k
theorem PL(k:a:=by rw [Q1.o,Q2.o];rfl):a:=k
theorem PW(k:a:=by exact ⟨rfl,HZ.o.1⟩):a:=k
theorem dy(k:a:=by exact ⟨ce,rfl,hce⟩):a:=k
theorem lr(k:a:=by exact absurd g0 am):a:=k
theorem sz(k:a:=by exact aA hcell hb0):a:=k
theorem vc(k:a:=by exact κ (HF2.o hf)):a:=k
theorem EV(k:a:=by simpa using hb.symm):a:=k
theorem GJ(k:a:=by rw [HR.o,HV.o,HT.o]):a:=k
theorem KK(k:a:=by exact info_parts pK):a:=k
theorem LK(k:a:=by rw [HA.o];exact hk5):a:=k
theorem LN(k:a:=by rw [HA.o];exact hiN):a:=k
theorem OL(k:a:=by rw [HSZ.o];exact hj):a:=k
theorem OU(k:a:=by exact κ (ι hb0 hz0)):a:=k
theorem gj(k:a:=by exact ⟨gB HF.o,rfl⟩):a:=k
theorem kr(k:a:=by exact info_parts nS):a:=k
theorem mu(k:a:=by exact ⟨hb,c,rfl,hc⟩):a:=k
theorem rj(k:a:=by exact κ (ι hb1 hp1)):a:=k
theorem zx(k:a:=by exact β (aK rcZ hz)):a:=k
theorem AZ(k:a:=by exact HP.o.below hb2):a:=k
theorem BG(k:a:=by exact RBad.up hbad11):a:=k
theorem CB(k:a:=by exact eE hp11 hb' ac):a:=k
theorem CH(k:a:=by exact RS.up2 hp11 ac):a:=k
theorem GD(k:a:=by exact iW hpw.2.1 hri):a:=k
theorem IM(k:a:=by rw [hpw.1];exact hlt):a:=k
theorem IQ(k:a:=by exact ⟨rfl,rfl,HZ.o⟩):a:=k
theorem JW(k:a:=by have:=H1.o.2.2;omega):a:=k
theorem LB(k:a:=by exact oQ ac ac _ _ _):a:=k
theorem LM(k:a:=by rw [HA.o];exact HB.o):a:=k
theorem NJ(k:a:=by unfold eG at g;omega):a:=k
theorem NK(k:a:=by unfold dS at g;omega):a:=k
theorem rf(k:a:=by exact β H.o.ki.hbp 0):a:=k
theorem rq(k:a:=by simp [pV,Ne.symm hj]):a:=k
theorem tq(k:a:=by rw [h1] at h;cases h):a:=k
theorem vf(k:a:=by exact eZ HN2.o HB2.o):a:=k
theorem xo(k:a:=by exact .inr ⟨h,e1,e2⟩):a:=k
theorem CA(k:a:=by exact κ (ι hx10 hp10)):a:=k
theorem EX(k:a:=by rw [List.any_map];rfl):a:=k
theorem GF(k:a:=by simp [Value.oneCell']):a:=k
theorem JE(k:a:=by exact bV hk5 o2 q3 am):a:=k
theorem JF(k:a:=by exact bV hk5 o2 i3 am):a:=k
theorem JG(k:a:=by exact bV hk5 o2 x3 am):a:=k
theorem MS(k:a:=by exact κ (pP HS.o.rw_)):a:=k
theorem NE(k:a:=by exact κ (HS.o.2.2 ac)):a:=k
theorem NF(k:a:=by exact κ (HS.o.2.1 ac)):a:=k
theorem bu(k:a:=by show (0:Int)≤_;decide):a:=k
theorem bw(k:a:=by show (0:Int)≤0;decide):a:=k
theorem pn(k:a:=by exact ⟨4,rfl,am,HB.o⟩):a:=k
theorem xi(k:a:=by exact HP1.o.below hb3):a:=k
theorem IZ(k:a:=by rintro rfl;exact hj hk):a:=k
theorem PB(k:a:=by rw [<-hb2e];exact jN am):a:=k
theorem lk(k:a:=by exact ⟨_,_,_,_,_,_,h1⟩):a:=k
theorem qf(k:a:=by rw [hr] at h0;cases h0):a:=k
theorem ux(k:a:=by exact hw j _ (rZ hltW)):a:=k
theorem ze(k:a:=by exact HA.o.cells.2.2.1):a:=k
theorem AW(k:a:=by exact HL.o.but hb hP hG):a:=k
theorem BK(k:a:=by exact kY rcZ hL9 rfl hG):a:=k
theorem BO(k:a:=by exact (hL7.cells).2.1 6):a:=k
theorem EF(k:a:=by simp [aE,List.map_take]):a:=k
theorem GC(k:a:=by exact hpw.2.2 i hlt hri):a:=k
theorem IB(k:a:=by exact ⟨rfl,λp h=>lq⟩):a:=k
theorem IC(k:a:=by exact ⟨rfl,λp h=>ID⟩):a:=k
theorem KR(k:a:=by exact kR hk5 ho0 am hr2):a:=k
theorem dz(k:a:=by exact XPost.pre HB.o hx):a:=k
theorem gy(k:a:=by exact λW h=>fA s W h):a:=k
theorem mt(k:a:=by intro e;simp at e;omega):a:=k
theorem nh(k:a:=by exact κ (HN.o.trans nj)):a:=k
theorem pj(k:a:=by exact ⟨rfl,hw5.1,hw5.2⟩):a:=k
theorem qz(k:a:=by exact List.mem_map.1 h2):a:=k
theorem tz(k:a:=by exact κ (HB.o.trans hb)):a:=k
theorem uq(k:a:=by exact show ¬n≤i from ac):a:=k
theorem xj(k:a:=by exact RX.below hb3 HX.o):a:=k
theorem BQ(k:a:=by exact HL6.o.but hb hP hG):a:=k
theorem DZ(k:a:=by exact κ (HS.o.but hb hP)):a:=k
theorem GY(k:a:=by exact ⟨rfl,λq' h=>lq⟩):a:=k
theorem ak(k:a:=by unfold mag;split<;>omega):a:=k
theorem kt(k:a:=by simp only [maxLen];omega):a:=k
theorem uu(k:a:=by exact κ (ι hb (ι hw hp))):a:=k
theorem zp(k:a:=by exact κ (HA.o.but hb hP)):a:=k
theorem zy(k:a:=by exact κ (HP.o.drawn hd1)):a:=k
theorem BL(k:a:=by exact HL7.o.but hb9 hP hG):a:=k
theorem FB(k:a:=by exact hs _ hw λz h=>lq):a:=k
theorem FV(k:a:=by exact ⟨rfl,rfl,[],Do S w⟩):a:=k
theorem MG(k:a:=by exact κ (HS.o.next hb hp)):a:=k
theorem NP(k:a:=by have:=hbo.size;simp;omega):a:=k
theorem jb(k:a:=by exact wL _ _ _ _ (ν _) ht):a:=k
theorem jj(k:a:=by unfold aR;rw [hv,hz0];rfl):a:=k
theorem ni(k:a:=by exact ⟨_,_,rfl,HX6.o,hp6⟩):a:=k
theorem ea(k:a:=by exact κ (But.of (P:=P) hb)):a:=k
theorem gw(k:a:=by exact λW=>eH (rn:Int) W):a:=k
theorem ip(k:a:=by exact λW=>eJ (rn:Int) W):a:=k
theorem pw(k:a:=by exact κ (H1.o.1.trans hb2)):a:=k
theorem BH(k:a:=by exact HL10.o.but hb11 hP hG):a:=k
theorem FO(k:a:=by rw [World.size_alloc];omega):a:=k
theorem FT(k:a:=by exact ⟨_,[r1],rfl,Dn h2 h3⟩):a:=k
theorem IN(k:a:=by exact κ (HS.o.next hb2 hp2)):a:=k
theorem JY(k:a:=by exact κ (ι hbw (ι hbx hb8))):a:=k
theorem NC(k:a:=by exact (s[k+1]' ac).toNat_lt):a:=k
theorem em(k:a:=by exact κ (ι hx2 (ι hB2 hp2))):a:=k
theorem ji(k:a:=by exact λW h=>eS t W htl h):a:=k
theorem oq(k:a:=by obtain ⟨s1,s2⟩:=hSw;go_simp):a:=k
theorem qb(k:a:=by exact ⟨ac,(aV r1).trans b1⟩):a:=k
theorem ra(k:a:=by exact List.mem_flatMap.1 hp):a:=k
theorem rx(k:a:=by rw [List.length_take];omega):a:=k
theorem ya(k:a:=by exact HW6.o.1.but hb7 hP hG):a:=k
theorem AI(k:a:=by have:w.heap.size<k:=hk;omega):a:=k
theorem BN(k:a:=by exact κ (nU 1 P (d+1) _ hb7)):a:=k
theorem MJ(k:a:=by exact κ (cF HF.o (u:=cO) am)):a:=k
theorem MT(k:a:=by exact FinQ.weak HI.o am HS.o):a:=k
theorem MW(k:a:=by exact κ (HL.o.next am hb hp)):a:=k
theorem ig(k:a:=by rw [Array.length_toList];rfl):a:=k
theorem po(k:a:=by exact ⟨ce,rfl,HB.o.1,HB.o.2⟩):a:=k
theorem ru(k:a:=by exact κ (HC.o.but.trans hb5)):a:=k
theorem xd(k:a:=by exact (HP1.o.below hb3).next):a:=k
theorem xe(k:a:=by exact HPX.o.trans (oD hs am)):a:=k
theorem AA(k:a:=by exact κ (HA.o.but hd1.but hP)):a:=k
theorem EN(k:a:=by exact hb0.trans (hb1.mono aa)):a:=k
theorem GQ(k:a:=by exact ⟨by rw [HN.o];rfl,HB.o⟩):a:=k
theorem LE(k:a:=by exact κ (HS.o.next hP0 hb hp)):a:=k
theorem NI(k:a:=by exact κ (HN.o (λh=>g h.1))):a:=k
theorem PK(k:a:=by exact ⟨by rw [HE.o];rfl,HQ.o⟩):a:=k
theorem ka(k:a:=by exact show i=l.length from ac):a:=k
theorem FP(k:a:=by simp [RC.cells,Value.oneCell']):a:=k
theorem FY(k:a:=by exact show i<rs.length from IM):a:=k
theorem JJ(k:a:=by exact bV hk7 o6 (aA q5 h56) am):a:=k
theorem JK(k:a:=by exact bV hk7 o6 (aA i5 h56) am):a:=k
theorem JL(k:a:=by exact bV hk7 o6 (aA x5 h56) am):a:=k
theorem JV(k:a:=by exact ⟨by rw [HDB.o],dH _ (θ)⟩):a:=k
theorem KF(k:a:=by rw [List.length_append,hg];rfl):a:=k
theorem bj(k:a:=by rw [Nat.add_comm 3 j];exact hu):a:=k
theorem dg(k:a:=by exact show k=ws.length from ac):a:=k
theorem el(k:a:=by exact PX.keep (cT hb3 hp2) hx2):a:=k
theorem gf(k:a:=by rw [beq_eq_false_iff_ne];omega):a:=k
theorem iv(k:a:=by exact λW h=>oX s W hs hz1 h):a:=k
theorem jz(k:a:=by exact show j=cs.length from ac):a:=k
theorem ld(k:a:=by exact show i=xs.length from ac):a:=k
theorem sh(k:a:=by obtain ⟨s1,s2,s3⟩:=hSw;go_simp):a:=k
theorem ut(k:a:=by exact show j<ws.length from ac):a:=k
theorem ve(k:a:=by exact show j=ws.length from ac):a:=k
theorem xh(k:a:=by exact RX.but hq5.1 HN4.o HX4.o):a:=k
theorem BD(k:a:=by exact β (aK (rcP 6 dZ v9 1) hz)):a:=k
theorem CJ(k:a:=by exact RX.but hb11 HX.o.2 HX.o.1):a:=k
theorem CZ(k:a:=by exact β (aK (rcP 6 fT v9 1) hz)):a:=k
theorem DI(k:a:=by exact β (aK (rcP 6 fX v9 1) hz)):a:=k
theorem DS(k:a:=by exact β (aK (rcP 6 aJ v9 1) hz)):a:=k
theorem ET(k:a:=by exact dG Y1 ⟨#[32]⟩ z1 (ν _) am):a:=k
theorem IF(k:a:=by exact ⟨⟨ac,ac⟩,by rw [h2];simp⟩):a:=k
theorem IG(k:a:=by exact show x.size≤10000 from IK):a:=k
theorem JH(k:a:=by exact hp1.two ho5' hb5.size hk5):a:=k
theorem JX(k:a:=by exact κ (uE hz.1 H1.o.1 hqw JW)):a:=k
theorem LF(k:a:=by exact κ (HS.o.next hP0 HR.o hb)):a:=k
theorem MC(k:a:=by exact κ (Ih P _ 4 am _ HS.o.ro)):a:=k
theorem bq(k:a:=by exact rI _ _ _ _ _ _ (xZ ht) h2):a:=k
theorem ir(k:a:=by exact show aI 39=false from rfl):a:=k
theorem iu(k:a:=by exact show gP 39=false from rfl):a:=k
theorem jc(k:a:=by exact show n≤1000000000 from ac):a:=k
theorem kg(k:a:=by simp [results,results95,go_sem]):a:=k
theorem ku(k:a:=by exact show (E !=0)=true from kf):a:=k
theorem rl(k:a:=by exact ⟨rfl,WkPost.stop HB.o am⟩):a:=k
theorem rv(k:a:=by exact HC.o.next hb5 hp5 (aU hq)):a:=k
theorem uh(k:a:=by exact show (i:Int)≤2000 from ac):a:=k
theorem FU(k:a:=by simp [Lp.allK,fitK,Bool.or_comm]):a:=k
theorem GK(k:a:=by exact fQ (q:=(3,0)) GJ HQ.o.drew):a:=k
theorem KZ(k:a:=by exact Fe (HT.o.below hb) hlt hiL):a:=k
theorem LR(k:a:=by rw [List.length_append,HA.o];rfl):a:=k
theorem NH(k:a:=by exact show x1<128∨192≤x1 from NK):a:=k
theorem ai(k:a:=by unfold Addr.add;split<;>simp_all):a:=k
theorem aq(k:a:=by exact Option.map_eq_some_iff.1 h):a:=k
theorem dh(k:a:=by simp [results,results130,go_sem]):a:=k
theorem di(k:a:=by rw [ByteArray.toList_eq,he];simp):a:=k
theorem dl(k:a:=by exact show (t.k==1)=true from nr):a:=k
theorem ij(k:a:=by exact k2.trans (b3.mono k2.size)):a:=k
theorem mn(k:a:=by rw [List.length_append,HN.o];rfl):a:=k
theorem nl(k:a:=by exact show (t.k==2)=true from nr):a:=k
theorem rb(k:a:=by exact κ (ι hi (ι hke (ι hp hs)))):a:=k
theorem rm(k:a:=by exact ⟨rfl,WkPost.stop HB.o hce⟩):a:=k
theorem sl(k:a:=by exact κ (HS.o.next hb hp (xA _))):a:=k
theorem tu(k:a:=by exact ⟨hb,.inr ⟨_,g,_,k1,am,k2⟩⟩):a:=k
theorem wi(k:a:=by exact show s≠[] from nD _ _ hmem):a:=k
theorem xq(k:a:=by exact RX.but hd4.but HP3.o HX3.o):a:=k
theorem yy(k:a:=by exact show (b' !=0)=true from PD):a:=k
theorem BC(k:a:=by exact κ (kD P d (t::r) _ hp2 h40)):a:=k
theorem EQ(k:a:=by simp only [Lp.X.size] at hn;omega):a:=k
theorem IK(k:a:=by simp only [Lp.X.size] at hs;omega):a:=k
theorem IU(k:a:=by exact Option.bind_eq_some_iff.1 h):a:=k
theorem JC(k:a:=by exact hW.trans (hlx.mono hW.size)):a:=k
theorem LC(k:a:=by exact Option.map_eq_some_iff.1 hq):a:=k
theorem LT(k:a:=by rw [List.length_append];exact hm4):a:=k
theorem MZ(k:a:=by exact (hbw.alloc hsz _).trans hb2):a:=k
theorem NQ(k:a:=by rw [List.length_drop,HSZ.o];omega):a:=k
theorem OI(k:a:=by rw [<-tw1,HD.o];exact iY _ hle hdi):a:=k
theorem bk(k:a:=by exact qQ f g lev d _ _ _ ac ac ac):a:=k
theorem kw(k:a:=by exact show (E==0)=false from η hk):a:=k
theorem mm(k:a:=by rw [List.length_append,HN.o];simp):a:=k
theorem np(k:a:=by exact show (t.k==2)=false from nr):a:=k
theorem nu(k:a:=by exact show (t.k==3)=false from nr):a:=k
theorem nx(k:a:=by exact show (t.k==4)=false from nr):a:=k
theorem nz(k:a:=by exact β (aM HX1.o hb1 HP1.o am) 0):a:=k
theorem ox(k:a:=by have:=hb1.size;simp at this;omega):a:=k
theorem qt(k:a:=by exact (HH.o.2.2.2.1.alloc _).drew):a:=k
theorem so(k:a:=by exact κ (HS.o.next hb hp (aU hq))):a:=k
theorem vo(k:a:=by exact show w<w1.heap.size from ox):a:=k
theorem EY(k:a:=by rw [List.length_map];exact hl.symm):a:=k
theorem JU(k:a:=by have:=lW hok;rw [gI] at this;omega):a:=k
theorem ii(k:a:=by simp [results,results63,go_sem,c3]):a:=k
theorem il(k:a:=by exact hb0.trans (b1.mono hb0.size)):a:=k
theorem jk(k:a:=by simp [results,results63,go_sem,c9]):a:=k
theorem kn(k:a:=by exact hown.cells (g:=b) rfl j u hu):a:=k
theorem ny(k:a:=by exact pQ HQ.o (HB.o.trans hb1) hp1):a:=k
theorem ug(k:a:=by exact show (0:Int)≤(i:Int) from ac):a:=k
theorem xk(k:a:=by exact show (sg != [])=true from kf):a:=k
theorem yv(k:a:=by exact κ (ι h0 (ι hb0 (ι hz0 hsz)))):a:=k
theorem GB(k:a:=by exact HO.o _ (List.getElem_mem hlt)):a:=k
theorem GE(k:a:=by exact ⟨by rw [HF.o,HN.o];rfl,HQ2.o⟩):a:=k
theorem MV(k:a:=by simp [results,results33,go_sem,hcE]):a:=k
theorem OC(k:a:=by simp [Value.oneCell',tkv,Tok.cells]):a:=k
theorem PP(k:a:=by first|simp [hsz]|simp [Act.put,hsz]):a:=k
theorem my(k:a:=by exact κ (HQ.o.trans (by rw [hq4e]))):a:=k
theorem uo(k:a:=by exact show ¬(n:Int)≤(i:Int) from ac):a:=k
theorem uw(k:a:=by exact κ (λhf=>HF.o j hltW hf hu)):a:=k
theorem wd(k:a:=by exact show (b'==0)=false from η hb'):a:=k
theorem xm(k:a:=by exact show (sg==[])=false from η hs):a:=k
theorem AX(k:a:=by exact κ (lR P d (t::r) _ hp2 h40 ac)):a:=k
theorem BY(k:a:=by exact show RBad P v9 (d+1) from hq10):a:=k
theorem EB(k:a:=by rw [List.mem_singleton.1 h];exact ih):a:=k
theorem FW(k:a:=by exact show (xs.length:Int)≤2 from ac):a:=k
theorem wg(k:a:=by exact show (s==[])=false from η hne0):a:=k
theorem xr(k:a:=by exact HL3.o.but (P:=P) hd4.but hP hG):a:=k
theorem xz(k:a:=by exact RX.but hb7 HW6.o.2.2 HW6.o.2.1):a:=k
theorem yu(k:a:=by exact κ (HC.o w1 (H0.o.1.drawn hd1))):a:=k
theorem zl(k:a:=by exact show (t.k==3)=false from η hk3):a:=k
theorem zm(k:a:=by exact show (t.k==2)=false from η hk2):a:=k
theorem BI(k:a:=by exact κ (gL ⟨#[41]⟩ P (d+1) _ hbad10)):a:=k
theorem FZ(k:a:=by exact κ (hb.trans (hbx.mono hb.size))):a:=k
theorem KW(k:a:=by exact κ (hb.trans (hbP.mono hb.size))):a:=k
theorem NN(k:a:=by exact λW=>iI ((x.toNat:Nat):Int) W):a:=k
theorem NO(k:a:=by exact λW=>gA ((x.toNat:Nat):Int) W):a:=k
theorem OM(k:a:=by exact λW=>iI ((y.toNat:Nat):Int) W):a:=k
theorem OS(k:a:=by exact λW=>gA ((y.toNat:Nat):Int) W):a:=k
theorem dc(k:a:=by exact show (ws.length:Int)≤10 from ac):a:=k
theorem jo(k:a:=by exact show (l.length:Int)≤100 from ac):a:=k
theorem yz(k:a:=by exact κ (ι (h.below hb0) (ι hb0 hz0))):a:=k
theorem IV(k:a:=by injection hy with hy;rw [<-hy];exact hx):a:=k
theorem IY(k:a:=by show w0.heap.size≠w0.heap.size+1;omega):a:=k
theorem KM(k:a:=by rw [e11,orL,List.length_map];exact hlo):a:=k
theorem OY(k:a:=by simp [results,results9,go_sem,hcE,stV]):a:=k
theorem ew(k:a:=by have:=(decode_high s pos h ac).1;omega):a:=k
theorem qk(k:a:=by exact κ (ι hce (HI.o.1.but.trans hb1))):a:=k
theorem se(k:a:=by exact κ (H.o.next hb2 hp2 (aV _) OK.o)):a:=k
theorem EU(k:a:=by first|exact θ|assumption|exact (θ).drew):a:=k
theorem FG(k:a:=by rw [Array.size_setIfInBounds];exact h.1):a:=k
theorem IP(k:a:=by exact λj=>frozen_of_row _ _ j _ _ h6):a:=k
theorem JM(k:a:=by exact λj=>frozen_of_row _ q j _ _ q8):a:=k
theorem JN(k:a:=by exact λj=>frozen_of_row _ q j _ _ q7):a:=k
theorem LI(k:a:=by have:=HS.o.g0;show w≤w2.heap.size;omega):a:=k
theorem MF(k:a:=by exact λj=>frozen_of_row _ _ j _ _ hz):a:=k
theorem ed(k:a:=by exact λj=>frozen_of_row w P j _ _ h1):a:=k
theorem mo(k:a:=by rw [List.length_append,HN.o];simp;omega):a:=k
theorem nf(k:a:=by exact ⟨rfl,gE (hB5.trans hb6) HN2.o am⟩):a:=k
theorem ns(k:a:=by exact heap_alloc_new w (.cells #[P] 98)):a:=k
theorem uf(k:a:=by exact show i<n from by simp at hn;omega):a:=k
theorem vm(k:a:=by show k≠_;have:w.heap.size+2≤k:=hk;omega):a:=k
theorem FX(k:a:=by exact HB.o.1.trans (hb.mono HB.o.1.size)):a:=k
theorem MK(k:a:=by intro k hk;simp at hk;try (subst hk;rfl)):a:=k
theorem al(k:a:=by exact Int.tmod_lt_of_pos n (b:=mag b) ak):a:=k
theorem iq(k:a:=by exact show 1≤s.size from by rw [hz];simp):a:=k
theorem jr(k:a:=by exact show (cs.length:Int)≤10000 from ac):a:=k
theorem oh(k:a:=by rcases hw with h|h|h|h<;>rw [h]<;>decide):a:=k
theorem ua(k:a:=by exact κ (HB.o.trans (hb.mono HB.o.size))):a:=k
theorem CK(k:a:=by exact κ (dI P (d+1) r3 ⟨#[41]⟩ _ hp10 hw)):a:=k
theorem FA(k:a:=by exact κ (HB.o.trans (hb2.mono HB.o.size))):a:=k
theorem GP(k:a:=by rw [Option.bind_some,hq] at hq';cases hq'):a:=k
theorem IW(k:a:=by exact ⟨(λx hx=>IR),List.suffix_refl _⟩):a:=k
theorem KV(k:a:=by exact κ (HQ.o.trans (hb9.mono HQ.o.size))):a:=k
theorem PZ(k:a:=by exact κ (HX.o.trans (hb8.mono HX.o.size))):a:=k
theorem iy(k:a:=by exact show (((n:Int)+1)==0)=false from gf):a:=k
theorem ln(k:a:=by exact H0.o.1.trans (hb1.mono H0.o.1.size)):a:=k
theorem BP(k:a:=by exact eE hp hb' (show d+1≤100000 by omega)):a:=k
theorem BU(k:a:=by exact κ (dI P (d+1) r ⟨#[40]⟩ _ HP6.o hw0)):a:=k
theorem EP(k:a:=by exact ⟨rfl,HB.o.trans (hb.mono HB.o.size)⟩):a:=k
theorem GM(k:a:=by rw [List.mem_singleton.1 hy];exact ih hx.2):a:=k
theorem GX(k:a:=by exact oY (Ts:=[T]) (h.below hb0) (i:=0) aa):a:=k
theorem ID(k:a:=by injection h with h;subst h;exact ⟨rfl,rfl⟩):a:=k
theorem JP(k:a:=by exact gJ (o:=5) (u:=.slice A5 (n+1) c5) q7):a:=k
theorem NM(k:a:=by clear hB;simp_all [cG,ByteArray.toList_eq]):a:=k
theorem ju(k:a:=by exact show (j:Int)<(cs.length:Int) from ac):a:=k
theorem na(k:a:=by exact λj=>frozen_of_row w4 w2 j _ _ hx4):a:=k
theorem pq(k:a:=by exact λj=>frozen_of_row w5 gi j _ _ hx5):a:=k
theorem CC(k:a:=by exact κ (dV P (d+1) 0 r3 ⟨#[41]⟩ _ hp10 AH)):a:=k
theorem mp(k:a:=by exact ⟨A,c,[g1],h1,rfl,pr h2,one (A:=A) h3⟩):a:=k
theorem pm(k:a:=by exact κ (ι hR0 (ι hp0 (ι hgi (ι hne hnx))))):a:=k
theorem py(k:a:=by exact aM H3.o.2.2.2.1 hb4 H3.o.2.2.2.2.1 am):a:=k
theorem rp(k:a:=by exact WkPost.ok HB.o.1 am HB.o.2.1 HB.o.2.2):a:=k
theorem JS(k:a:=by exact cA (o2:=5) i7 hBi (.slice A5 (n+1) c5)):a:=k
theorem JT(k:a:=by exact cA (o2:=5) x7 bxq (.slice A5 (n+1) c5)):a:=k
theorem OT(k:a:=by rw [HD.o,List.takeWhile_cons,if_pos hw];simp):a:=k
theorem au(k:a:=by rw [List.length_drop,List.length_cons];omega):a:=k
theorem fd(k:a:=by exact Lib.iterAt_heap wr w s pos (pos+1) hit):a:=k
theorem wb(k:a:=by exact β (aK ⟨k,vk,vi,vs,vb,tt,ss,A,nn,c⟩ hz)):a:=k
theorem CO(k:a:=by exact show (t.s==[115,117,109])=false from AM):a:=k
theorem OO(k:a:=by rw [HD.o,List.takeWhile_cons,if_pos hdi];simp):a:=k
theorem OQ(k:a:=by exact show ¬(s.size:Int)<(s.size:Int) from ac):a:=k
theorem PF(k:a:=by exact κ (show Below w w V.drew from hbl.drew)):a:=k
theorem kl(k:a:=by exact show ((HL.length:Int)==1)=false from gf):a:=k
theorem lv(k:a:=by exact ⟨77,_,rfl,rfl,am,am,λh=>absurd h am⟩):a:=k
theorem pv(k:a:=by exact aM H0.o.2.2.2.2.1 hb1 H0.o.2.2.2.2.2 am):a:=k
theorem IH(k:a:=by rw [List.mem_singleton.1 hy];exact ih hx.2 hs2):a:=k
theorem LD(k:a:=by exact ⟨none,0,[],hu.symm,.inl rfl,rfl,trivial⟩):a:=k
theorem MH(k:a:=by exact κ (Gs ⟨#[105,110,100,101,120]⟩ HS.o.rw_)):a:=k
theorem NG(k:a:=by exact show (s[k+1]' ac).toNat=x1 from he1.symm):a:=k
theorem OW(k:a:=by exact heap_alloc_new w (.cells stZ.toArray 38)):a:=k
theorem PJ(k:a:=by exact show s.size=s.data.toList.length from ig):a:=k
theorem bz(k:a:=by exact show s.data.toList.length=s.size from ig):a:=k
theorem cu(k:a:=by exact show 0<(((t::r).length:Nat):Int) from aa):a:=k
theorem mr(k:a:=by exact ⟨none,0,[],hcs,Rds.nil_,ν _,λ_ h=>lq⟩):a:=k
theorem rd(k:a:=by exact λj=>frozen_of_row w2 w1 j _ _ H.o.box):a:=k
theorem xf(k:a:=by exact show (t::r').length=r'.length+1 from rfl):a:=k
theorem zw(k:a:=by exact bodyPost_ret (v:=RC.val rcZ) za rfl HE.o):a:=k
theorem DX(k:a:=by simp [results,results134,go_sem,hcE,RC.val,rcC]):a:=k
theorem EC(k:a:=by exact show Drawn w1 (w1.drewN nq) from ⟨nq,rfl⟩):a:=k
theorem OV(k:a:=by exact rR s (w.alloc (.cells stZ.toArray 38)) hs):a:=k
theorem fq(k:a:=by clear hB2 hT2;simp_all [cG,aR]<;>(intros;omega)):a:=k
theorem za(k:a:=by simp [results,results134,go_sem,hcE,RC.val,rcZ]):a:=k
theorem zd(k:a:=by simp [results,results134,go_sem,hcE,RC.val,rcL]):a:=k
theorem BV(k:a:=by exact kY ⟨k,vk,vi,vs,vb,tt,ss,A,nn,c⟩ hL9 rfl hG):a:=k
theorem LO(k:a:=by rw [List.length_append,List.length_map,HA.o];rfl):a:=k
theorem vh(k:a:=by exact ⟨h1.trans hb,⟨r0,aL hb h2 ac⟩,aL hb h3 ac⟩):a:=k
theorem vx(k:a:=by exact ⟨0,_,hL2,.inl ⟨rfl,RBad.below hq1 hb2,hx⟩⟩):a:=k
theorem BE(k:a:=by exact κ (dC (rcP 6 dZ v9 1) hLF.b rfl hP q5 HQ.o)):a:=k
theorem DA(k:a:=by exact κ (dC (rcP 6 fT v9 1) hLF.b rfl hP q5 HQ.o)):a:=k
theorem DJ(k:a:=by exact κ (dC (rcP 6 fX v9 1) hLF.b rfl hP q5 HQ.o)):a:=k
theorem DQ(k:a:=by exact κ (dC (rcP 6 aJ v9 1) hLF.b rfl hP q5 HQ.o)):a:=k
theorem EJ(k:a:=by exact κ (HT.o.2.1.trans (hbq.mono HT.o.2.1.size))):a:=k
theorem dq(k:a:=by obtain ⟨g,h0,h⟩:=h;exact ⟨g,Nat.le_trans hB h0,h⟩):a:=k
theorem fc(k:a:=by exact Lib.below_iterAt hbw (k:=w) (ν _) s (pos+1)):a:=k
theorem yg(k:a:=by exact κ (dI P d r' ⟨#[110,117,108,108]⟩ _ hp7 hw)):a:=k
theorem LP(k:a:=by exact κ (show RO P w7 (some r'.tail) from m2▸HR.o)):a:=k
theorem LQ(k:a:=by rw [hm5 (by rw [List.length_append] at h;exact h)]):a:=k
theorem fl(k:a:=by clear hB2 hT2;simp_all [cG,ByteArray.toList_eq,fN]):a:=k
theorem we(k:a:=by exact show (s != [])=true from by rw [bne,hne];rfl):a:=k
theorem BZ(k:a:=by exact κ (show pX 8 d (t::r)=none by rw [HQ1.o,hpx])):a:=k
theorem EE(k:a:=by exact κ (ι (H1.o.1.trans hd.but) (H1.o.2.drawn hd))):a:=k
theorem JR(k:a:=by exact h A5 c5 A7 c7 _ _ _ _ _ hS6.1 hS6.2.1 hS6.2.2):a:=k
theorem KA(k:a:=by exact κ (qW (sc:=sc) (gr:=true) (f:=(·.1)) hlt hfe)):a:=k
theorem dt(k:a:=by obtain ⟨g,h0,h1,h2⟩:=h;exact ⟨g,h0,h1,hs _ _ h0 h2⟩):a:=k
theorem jm(k:a:=by exact κ (lT (l:=s.data.toList) (by rw [hsz];omega))):a:=k
theorem qu(k:a:=by exact (hk5 _ _ (bX (aB HH.o.1 _)) HH.o.2.2.2.2.2).1):a:=k
theorem ri(k:a:=by exact κ (H.o.next hb2 hp2 (List.suffix_refl _) okC)):a:=k
theorem ud(k:a:=by exact show (i:Int)<(n:Int) from by simp at hn;omega):a:=k
theorem uv(k:a:=by exact κ (λhf=>iD (p:=λu=>isF u l) hltW hu hf)):a:=k
theorem vq(k:a:=by exact show But P w w1 from (But.of HB0.o).trans hb1):a:=k
theorem AL(k:a:=by exact show (t.s==[99,111,117,110,116])=false from AM):a:=k
theorem mj(k:a:=by exact κ (show aD eI r1=some r1.tail by simp [aD,hc])):a:=k
theorem ql(k:a:=by exact κ (ι hbx (ι hgi (ι hcs (ι hown (ι hng hnb)))))):a:=k
theorem sd(k:a:=by exact κ (H.o.next hb2 hp2 (List.suffix_refl _) OK.o)):a:=k
theorem vg(k:a:=by exact κ (HN.o (by rwa [hj2,List.take_length] at hu))):a:=k
theorem vu(k:a:=by exact heap_alloc_new w (.cells rcZ.cells.toArray 60)):a:=k
theorem AO(k:a:=by exact show w<u0.heap.size from by have:=HA.o.lt;omega):a:=k
theorem bh(k:a:=by exact ⟨b,off,hA,hlt,hc 0 _ rfl,hc 1 _ rfl,hc 2 _ rfl⟩):a:=k
theorem dv(k:a:=by obtain ⟨g,h0,h1,h2⟩:=h;exact ⟨g,h0,h1,hs _ _ _ h2 am⟩):a:=k
theorem qv(k:a:=by exact (hk5 _ _ (bX (aB HH.o.2.1 _)) HH.o.2.2.2.2.1).1):a:=k
theorem mz(k:a:=by exact heap_setCell_same w4 w2 1 _ _ (.iface T4 g4) hx4):a:=k
theorem nk(k:a:=by exact show Below w w (w.alloc (.cells #[P] 98)) from ρ):a:=k
theorem ym(k:a:=by exact κ (dI P d r'.tail ⟨#[110,117,108,108]⟩ _ hp8 hw)):a:=k
theorem ag(k:a:=by exact show (⟨g,0,none⟩:Addr).add j=⟨g,0+j,none⟩ from ai):a:=k
theorem km(k:a:=by exact show (⟨b,0,none⟩:Addr).add j=⟨b,0+j,none⟩ from ai):a:=k
theorem mw(k:a:=by exact κ (heap_alloc_new w2 (.cells #[UP,.nilIface] 208))):a:=k
theorem sa(k:a:=by injection h with h;subst h;exact hx.mono HI.o.1.but.size):a:=k
theorem av(k:a:=by exact show ((c::r).drop (bE (c::r)).2.1).length≤k from au):a:=k
theorem jl(k:a:=by exact κ (tU (l:=s.data.toList) (by rw [hsz];exact hlong))):a:=k
theorem PV(k:a:=by exact show Below w w w7 from hw6.trans (hb'.mono hw6.size)):a:=k
theorem jv(k:a:=by exact β (heap_alloc_new wr (.cells #[cn,.int .u8 ck] 116))):a:=k
theorem uz(k:a:=by exact eZ HF3.o (HS.o.1.trans (hd1.below.mono HS.o.1.size))):a:=k
theorem zf(k:a:=by exact HA.o.but (But.set P 1 v0 (.int .i64 ((j:Int)+1))) hP):a:=k
theorem MX(k:a:=by exact κ (HL.o.next am hb (hp.mono (show gk≤2000 by omega)))):a:=k
theorem fm(k:a:=by clear hB2 hT2 hc1 hf1 hb1;simp_all [cG,aR]<;>(intros;omega)):a:=k
theorem GL(k:a:=by exact show ∀ {y:Lp.X} {ys:List Lp.X},y::ys≠[] from λh=>lq):a:=k
theorem KU(k:a:=by exact κ (Mw ho8 HPI.o (kR hk8 ho5 am hr5) (iX hb9 HR.o.2.1))):a:=k
theorem ui(k:a:=by exact heap_setCell_same w P 2 _ _ (.int .i64 ((d:Int)+1)) h1):a:=k
theorem xx(k:a:=by exact hL4.but (But.set P 1 w4 (.int .i64 ((i:Int)+1))) hP hG):a:=k
theorem AG(k:a:=by exact hL8.but (But.set P 2 v8 (.int .i64 ((e6:Int)-1))) hP hG):a:=k
theorem EO(k:a:=by exact ⟨congrArg (λx=>Ending.returned (.string x)) HE.o,hb⟩):a:=k
theorem LH(k:a:=by exact κ (show RO P _ ((o.bind (pX 1 0)).map (·.2)) from HR.o)):a:=k
theorem NX(k:a:=by exact λW=>qG acc W (by show acc.toArray.size≤_;simp;omega)):a:=k
theorem OX(k:a:=by exact show Below w w (w.alloc (.cells stZ.toArray 38)) from ρ):a:=k
theorem qj(k:a:=by exact (hk5 _ _ (bX (aB hg ob)) (cU k2d (bX (aB hg ob)) h2)).1):a:=k
theorem AF(k:a:=by exact κ (dC ⟨k,vk,vi,vs,vb,tt,ss,A,nn,c⟩ hLF.b rfl hP q5 HQ.o)):a:=k
theorem AH(k:a:=by rw [show (⟨#[41]⟩:ByteArray).data.toList=[41] from rfl,hw];rfl):a:=k
theorem BS(k:a:=by exact κ (show pX 8 d (t::r)=none by rw [HQ0.o,aD,hw0];try rfl)):a:=k
theorem DT(k:a:=by rw [show (⟨#[42]⟩:ByteArray).data.toList=[42] from rfl,hs];rfl):a:=k
theorem DY(k:a:=by rw [show (⟨#[46]⟩:ByteArray).data.toList=[46] from rfl,hw];rfl):a:=k
theorem MY(k:a:=by exact κ (HS.o.set hP0 9 am am (.slice A k c) (oQ ac ac _ _ _))):a:=k
theorem jn(k:a:=by exact ⟨(one h0 h1).1,A,c,g1,(one h0 h1).2,h2.turn ht aa,ih h3⟩):a:=k
theorem ou(k:a:=by exact bG w (.cells #[.nilIface] 28) (.cells #[.int .i64 0] 29)):a:=k
theorem sy(k:a:=by exact heap_alloc_new w (.cells #[.slice A sc.length c,gr] 139)):a:=k
theorem yx(k:a:=by rw [show (⟨#[45]⟩:ByteArray).data.toList=[45] from rfl,hf];rfl):a:=k
theorem BF(k:a:=by exact hL11.but (But.set P 2 v11 (.int .i64 ((e6:Int)-1))) hP hG):a:=k
theorem ER(k:a:=by exact show w.cell? ⟨bA,offA,none⟩=some (ptr g1) from hp 0 _ rfl):a:=k
theorem IX(k:a:=by exact ⟨h1.trans hb,hp,hb.box h2 h3 am,cs,h4,hb.box h2 h5 am,h6⟩):a:=k
theorem qa(k:a:=by exact Option.bind_eq_some_iff.1 (show (aX l k).bind _=_ from h)):a:=k
theorem GV(k:a:=by exact ⟨congrArg (λx=>Ending.returned (.string x)) HE.o,HB2.o⟩):a:=k
theorem ic(k:a:=by exact heap_alloc_new w (.cells #[.int .u8 0,(),.int .i64 0] 160)):a:=k
theorem xv(k:a:=by exact Oa (rc:=⟨k,vk,vi,vs,vb,tt,ss,A,nn,c⟩) hL5 hx5 n4 hP hG rfl):a:=k
theorem KB(k:a:=by exact PX.keepN (StaysT.below (hbw.trans (hbI.mono hbw.size))) hpx):a:=k
theorem af(k:a:=by exact List.eq_nil_of_length_eq_zero (by rw [h.1,h0,Nat.zero_mul])):a:=k
theorem gu(k:a:=by exact show s.data.toList=[] from List.eq_nil_of_length_eq_zero fv):a:=k
theorem jh(k:a:=by exact aB (aA x1 b2) (.cells #[.int .u8 2,.int .i64 0,t,false] 58)):a:=k
theorem qh(k:a:=by exact ⟨b,off,rfl,hc _ _ h0,by rw [Nat.add_assoc];exact hc _ _ h1⟩):a:=k
theorem tp(k:a:=by exact heap_alloc_new w (.cells #[.slice A sc.length c,false] 139)):a:=k
theorem ul(k:a:=by exact κ (λ(w':World) (h':RS w' P [] d 0)=>fH P d 0 4 [] w' h')):a:=k
theorem zk(k:a:=by exact gU (P:=P) t H0.o.2.1 H0.o.2.2 (World.size_alloc _ _) (nq+1)):a:=k
theorem FD(k:a:=by rw [List.any_map];simp [List.any_eq_not_all_not,Function.comp_def]):a:=k
theorem PY(k:a:=by exact Ec _ _ _ _ _ _ _ _ _ _ _ _ _ _ _ _ _ _ _ _ _ _ _ _ _ _ _ _ _):a:=k
theorem je(k:a:=by exact dP (aQ hT1 b2) (.cells #[.int .u8 2,.int .i64 0,t,false] 58)):a:=k
theorem lj(k:a:=by exact κ (show bs.any id=false by rwa [hk2,List.take_length] at hq)):a:=k
theorem xp(k:a:=by rw [show (⟨#[105,115]⟩:ByteArray).data.toList=wIs from rfl,hi];rfl):a:=k
theorem FC(k:a:=by exact hs _ hw λz h=>by rw [List.mem_singleton.1 h];exact ih hw.2):a:=k
theorem PN(k:a:=by exact κ (ι (HTW.o _ (List.getElem_mem hiL)) (List.getElem_mem hiL))):a:=k
theorem br(k:a:=by exact fin (show mX _ _ _ _ from .inr (.inr (.inr ⟨rfl,rfl,rfl⟩))) h):a:=k
theorem ms(k:a:=by exact ⟨some a,cap,l,by rw [h1];exact hcs,h2,by rw [h1];exact hl,h3⟩):a:=k
theorem st(k:a:=by rw [byF,HF.o];show (aD wBy r11.tail).bind _=_;rw [HQr13.o];exact hq):a:=k
theorem su(k:a:=by rw [byF,HF.o];show (aD wBy r15.tail).bind _=_;rw [HQr17.o];exact hq):a:=k
theorem vw(k:a:=by exact show Below w w (w.alloc (.cells rcZ.cells.toArray 60)) from ρ):a:=k
theorem yi(k:a:=by exact hp7.far (o:=6) (v:=.string ⟨#[78,79,84]⟩) (show P<G by omega)):a:=k
theorem ED(k:a:=by exact show (w1.drewN nq).cell? ⟨P,3,none⟩=some (.int .i64 0) from c3):a:=k
theorem EH(k:a:=by exact β (heap_alloc_new wr (.cells #[tn,.slice At cs.length ct] 52))):a:=k
theorem GZ(k:a:=by exact ⟨rfl,λq' h=>by injection h with h;exact ⟨q,rfl,by rw [<-h]⟩⟩):a:=k
theorem jp(k:a:=by exact β (heap_alloc_new wr (.cells #[tn,.slice A2 cs.length c2] 50))):a:=k
theorem mf(k:a:=by exact show aO sc (.agg op' x')++t=op'++40::(aO sc x'++41::t) from ma):a:=k
theorem qm(k:a:=by exact show some bx≠Value.ownBlock (.slice A n c) from cU hown hbx am):a:=k
theorem qn(k:a:=by exact show some gi≠Value.ownBlock (.slice A n c) from cU hown hgi am):a:=k
theorem ev(k:a:=by exact ⟨congrArg (λx=>Ending.returned (.int .i32 x)) HF.o.symm,rfl⟩):a:=k
theorem fa(k:a:=by exact Lib.below_iterAt hbw (k:=w) (ν _) s (pos+(Utf8.decode s pos).2)):a:=k
theorem gm(k:a:=by exact κ (show ((cK s.data.toList:Nat):Int)=2 by rw [hl];simp [cK,ht])):a:=k
theorem jf(k:a:=by exact heap_alloc_new w2 (.cells #[.int .u8 2,.int .i64 0,t,false] 58)):a:=k
theorem mx(k:a:=by exact show Below w2 w2 (w2.alloc (.cells #[UP,.nilIface] 208)) from ρ):a:=k
theorem yc(k:a:=by exact κ (vX (done:=done) (HZ.o.1.but hb9 hP hG) (eE hp9 hb' hd) HQ.o)):a:=k
theorem yn(k:a:=by exact κ (vX (done:=true) (HZ.o.1.but hb9 hP hG) (eE hp9 hb' hd) HQ.o)):a:=k
theorem yw(k:a:=by rw [show (⟨#[110,111,116]⟩:ByteArray).data.toList=oV from rfl,hf];rfl):a:=k
theorem uc(k:a:=by exact show decide ((i:Int)<((i+([]:ZW).length:Nat):Int))=false from aa):a:=k
theorem vz(k:a:=by exact show (w.alloc (.cells rcZ.cells.toArray 60)).heap.size≤g from hg):a:=k
theorem dx(k:a:=by exact κ (show ∀ u∈ws,isF u l=false by rwa [hk2,List.take_length] at hq)):a:=k
theorem jw(k:a:=by exact show Below wr wr (wr.alloc (.cells #[cn,.int .u8 ck] 116)) from ρ):a:=k
theorem kj(k:a:=by exact bodyPost_ret (v:=.tuple #[.pointer none,.int .i64 6]) kg rfl HR.o):a:=k
theorem ml(k:a:=by rw [HNX.o,List.length_append];congr 1;have:=HN.o;(try simp);(try omega)):a:=k
theorem wy(k:a:=by exact (HL.o.far hb3).but (But.set P 1 w3 (.int .i64 ((i:Int)+1))) hP hG):a:=k
theorem ES(k:a:=by exact κ (λ(W:World) (hb:Below w.heap.size w W)=>ih S w W g1 hx hT hb)):a:=k
theorem nv(k:a:=by exact (show pX 8 d (t::r)=pA d (t::r) from dD).trans (Dq (hs.2 t aa) hk)):a:=k
theorem CG(k:a:=by exact hx11.far (g:=P) (o:=2) (v:=.int .i64 ((e6:Int)-1)) (λk hk _=>AI)):a:=k
theorem PG(k:a:=by exact (kX (g:=w) (k:=0) (tb:=[]) (A:=none) (n:=0) (HSE.o.b.new ac) (ν _))):a:=k
theorem du(k:a:=by obtain ⟨g,u,h0,h1,h2,h3⟩:=h;exact ⟨g,u,h0,h1,hs _ _ h0 h2,PX.keepB hs h3⟩):a:=k
theorem mb(k:a:=by exact show aO sc (.un op' x')++t=40::(op'++32::(aO sc x'++41::t)) from ma):a:=k
theorem pu(k:a:=by exact κ (ι h (ι hs (ι hR (ι (But.of (P:=P) hb0) (ι hx0 (h.below hb0))))))):a:=k
theorem wu(k:a:=by exact κ (lY s (w3.setCell ⟨P,1,none⟩ (.int .i64 ((i:Int)+1))).drew _ hup)):a:=k
theorem IA(k:a:=by exact ⟨rfl,λq' h=>by injection h with h;exact ⟨q,p,rfl,rfl,by rw [<-h]⟩⟩):a:=k
theorem PO(k:a:=by exact λ(Wq:World) (hb':Below w w Wq)=>ι (β (aA hq hb')) (β (aA hb hb'))):a:=k
theorem bf(k:a:=by exact .inr ⟨b,off,hA,hlt,λj u hu=>qA hb (hc j u hu) (Nat.ne_of_lt hlt)⟩):a:=k
theorem dw(k:a:=by obtain ⟨g,u,h0,h1,h2,h3⟩:=h;exact ⟨g,u,h0,h1,hs _ _ _ h2 am,PX.keep hs h3⟩):a:=k
theorem pk(k:a:=by exact (Below.heap_setCell w5 ⟨gi,1,none⟩ _ g (λe=>h3 e.symm)).trans hg5):a:=k
theorem pp(k:a:=by exact show some gi≠Value.ownBlock (.slice A acc.length c) from cU h2 h1 am):a:=k
theorem zb(k:a:=by exact fD (nq+1) (.cells #[.int .u8 0,(),.int .i64 0] 173) k0 k1 k2 hc0 hc1):a:=k
theorem OA(k:a:=by exact show cG 2 0 acc false=true from by rw [fK,hok,decide_eq_true h60];rfl):a:=k
theorem oz(k:a:=by obtain ⟨g,u,h0,h1,h2,h3⟩:=h;exact ⟨g,u,h0,h1,hs _ _ _ h2 am,PX.keepN hs h3⟩):a:=k
theorem BB(k:a:=by exact (HL.o.but hb hP hG).but (But.set P 1 v5 (.int .i64 ((j:Int)+1))) hP hG):a:=k
theorem zu(k:a:=by rw [dD,eF,if_neg hk2,if_neg hk3,if_neg zo,if_neg zr,if_neg DW,if_pos fy];rfl):a:=k
theorem FL(k:a:=by exact show (if (aC sc y gr).2=0 then aF sc gr l else (aC sc y gr).2)=0 from h):a:=k
theorem LJ(k:a:=by exact κ (show RO P _ (((o.bind (pX 1 0)).map (·.2)).map List.tail) from HR.o)):a:=k
theorem fk(k:a:=by clear hB2 hT2 hc1 hf1 hb1;simp_all [cG,ByteArray.toList_eq,Lib.validD_nil,fN]):a:=k
theorem kp(k:a:=by exact show Below w w (w.alloc (.cells #[.slice A sc.length c,gr] 139)) from ρ):a:=k
theorem sj(k:a:=by exact ⟨none,0,[],hu.symm,by rw [<-hu];exact World.ownsRow_nil _ _ _ _,trivial⟩):a:=k
theorem dr(k:a:=by obtain ⟨g,u,h0,h1,h2,h3⟩:=h;exact ⟨g,u,Nat.le_trans hB h0,h1,h2,PX.mono hB h3⟩):a:=k
theorem fj(k:a:=by exact show ∀ o1 o2,eQ ((w.alloc o1).alloc o2) from λo1 o2=>dP (dP hT o1) o2):a:=k
theorem qs(k:a:=by exact show w.cell? ⟨bx,0,none⟩=some (.pointer (some ⟨gi,0,none⟩)) from β hbx 0):a:=k
theorem um(k:a:=by exact RNPost.no rfl ((Drawn.but ⟨nq,rfl⟩).trans HE.o.1) (eE HE.o.2 (jN am) hd)):a:=k
theorem EM(k:a:=by exact show Below w w (w.alloc (.cells #[.int .u8 k,.int .i64 i,s,b] 58)) from ρ):a:=k
theorem KG(k:a:=by exact κ (HX.o.1.trans ((HM.o.1.trans (hb2.mono HM.o.1.size)).mono HX.o.1.size))):a:=k
theorem ie(k:a:=by exact show Below w w (w.alloc (.cells #[.int .u8 0,(),.int .i64 0] 160)) from ρ):a:=k
theorem ov(k:a:=by exact aB (heap_alloc_new w (.cells #[.nilIface] 28)) (.cells #[.int .i64 0] 29)):a:=k
theorem NW(k:a:=by exact aA (heap_alloc_new wr (.cells #[.int .u8 2,.int .i64 0,acc,false] 58)) hb5):a:=k
theorem tm(k:a:=by exact show Below w w (w.alloc (.cells #[.slice A sc.length c,false] 139)) from ρ):a:=k
theorem EI(k:a:=by exact show Below wr wr (wr.alloc (.cells #[tn,.slice At cs.length ct] 52)) from ρ):a:=k
theorem KH(k:a:=by exact show W10.cell? ⟨q+1,0,none⟩=some (.pointer (some ⟨q,0,none⟩)) from β hx10 0):a:=k
theorem KN(k:a:=by exact show (jR (aY (aE l) s)).length≤30 from by rw [jR,List.length_map];exact hli):a:=k
theorem NY(k:a:=by exact κ (λW=>lN 2 0 acc false _ hRt W (by show acc.toArray.size≤_;simp;omega))):a:=k
theorem jq(k:a:=by exact show Below wr wr (wr.alloc (.cells #[tn,.slice A2 cs.length c2] 50)) from ρ):a:=k
theorem JQ(k:a:=by exact vR (i:=5) (j:=6) hbut hqB hwB hq hp am hlW hnW ho5' hb5 hk5 h56 ho7' hb7 hk7):a:=k
theorem PH(k:a:=by exact show v2.heap[w.heap.size]? = some (.cells stZ.toArray 38 (0,0)) from HSE.o.z):a:=k
theorem FM(k:a:=by exact show Turn (λk=>B≤k) (λk=>k≠q) wr wr from Turn.mono λk (hk:B≤k) _=>ac):a:=k
theorem OG(k:a:=by exact show cG 2 0 acc false=false from by rw [fK,decide_eq_false h60,Bool.false_and]):a:=k
theorem OZ(k:a:=by exact show w<w1.heap.size from by have:=hb1.size;rw [World.size_alloc] at this;omega):a:=k
theorem wn(k:a:=by exact show G<(w3.setCell ⟨P,1,none⟩ (.int .i64 ((i:Int)+1))).heap.size from aG hL4.x):a:=k
theorem AV(k:a:=by exact κ (dC rcZ hL5.b rfl hP (show RBad P v5 d from ⟨t::r,d+1,b',hb',hp,ac,ac⟩) HQ.o)):a:=k
theorem AJ(k:a:=by exact show t.s=gG from by simp only [isF,Bool.and_eq_true,beq_iff_eq] at fy;exact fy.1):a:=k
theorem CN(k:a:=by exact show t.s=jA from by simp only [isF,Bool.and_eq_true,beq_iff_eq] at fy;exact fy.1):a:=k
theorem DC(k:a:=by exact show t.s=kL from by simp only [isF,Bool.and_eq_true,beq_iff_eq] at fy;exact fy.1):a:=k
theorem DL(k:a:=by exact show t.s=bF from by simp only [isF,Bool.and_eq_true,beq_iff_eq] at fy;exact fy.1):a:=k
theorem FN(k:a:=by exact show Below w w1 w5 from ((Below.refl w1 w1).alloc (ν _) _ |>.mono hsz).trans hb5):a:=k
theorem dj(k:a:=by exact κ (show (ws.take (k+1)).contains s.data.toList=false by rw [hq1];simpa using he)):a:=k
theorem BJ(k:a:=by exact mZ (G:=u0) (.cells rcZ.cells.toArray 60) (.slice (some ⟨v9,0,none⟩) 1 1) hbad9 ac):a:=k
theorem JO(k:a:=by exact show w7.ownsRow B 4 1 (.slice A7 (n+1) c7) (us.length+1) (us++[.bool bd]) from JI):a:=k
theorem jx(k:a:=by exact show (⟨bc,oc,none⟩:Addr)=⟨bc2,oc2,none⟩ from Option.some.inj (hA3.symm.trans hA4)):a:=k
theorem wm(k:a:=by exact ι (c1 0) (ι (c1 1) (ι (c1 2) (ι (c1 3) (ι (c1 4) (ι (c1 5) (ι (c1 6) (c1 7)))))))):a:=k
theorem yh(k:a:=by exact show fP r'=(aD cE r'.tail).map (λq=>(true,q)) from by unfold fP;rw [if_pos hn]):a:=k
theorem FJ(k:a:=by exact show cs.length≤16 from by rw [List.length_append,stc,List.length_map] at hln;omega):a:=k
theorem NS(k:a:=by exact show bE (x::s.data.toList.drop (i+1))=lD (some (acc,p)) from by rw [H39.o,dE,HA.o]):a:=k
theorem NU(k:a:=by exact show bE (x::s.data.toList.drop (i+1))=(⟨0,[],0⟩,0,4) from by rw [hnx];exact sE hok):a:=k
theorem PC(k:a:=by exact (HS6.o.but (Drawn.but (P:=P) (w':=v1.drewN nq) ⟨nq,rfl⟩) hBP hPG).but hbv2 hBP hPG):a:=k
theorem gq(k:a:=by exact show Hd0 (s.data.toList.all aI=true) from by have:=HD.o;rw [kM] at this;exact this):a:=k
theorem ry(k:a:=by exact κ ((iQ P l.length 0 (by have:=hs.1;omega)).e w l (ν _) hp hs (hR0.but hp0 hi.but))):a:=k
theorem yj(k:a:=by exact Vl (hi7.far (g:=G) (o:=6) (v:=.string ⟨#[78,79,84]⟩) (λk (hk:Sx w G k) _=>hk.2))):a:=k
theorem NV(k:a:=by exact ((hbw.trans (hbo.mono hsz)).alloc (Nat.le_trans hsz hbo.size) _).trans (hb5.mono NP)):a:=k
theorem ja(k:a:=by exact show (t:ByteArray).size≤9223372036854775807 from by show t.toArray.size≤_;simp;omega):a:=k
theorem vj(k:a:=by exact ⟨⟨r0,β h2⟩,β h3,λj=>frozen_of_row w _ j _ _ h2,λj=>frozen_of_row w _ j _ _ h3⟩):a:=k
theorem EG(k:a:=by exact show bY (aE (l.take (i+1)))=bY (aE (l.take i))+(l[i]).1.cs.length from by rw [hT1,tP]):a:=k
theorem yf(k:a:=by exact κ (sU (done:=done) (HZ.o.1.but hb9 hP hG) (RX.but hb9 HZ.o.2.2 HZ.o.2.1) hp9 ac HQ.o)):a:=k
theorem yp(k:a:=by exact κ (sU (done:=true) (HZ.o.1.but hb9 hP hG) (RX.but hb9 HZ.o.2.2 HZ.o.2.1) hp9 ac HQ.o)):a:=k
theorem OE(k:a:=by exact show bE (x::s.data.toList.drop (i+1))=(⟨0,[],0⟩,0,2) from by rw [hnx];exact rN hok h60):a:=k
theorem PE(k:a:=by exact bodyPost_ret (v:=.tuple #[stV 0 [] none 0,.int .i64 (b2)]) OY rfl (vT HQ.o HBE.o HZ.o)):a:=k
theorem mc(k:a:=by exact show aO sc (.isn n x')++t=40::(aO sc x'++32::((if n then lX else sIs)++41::t)) from ma):a:=k
theorem uj(k:a:=by obtain ⟨g,r1,h1,h0,h2,h3⟩:=h;exact ⟨g,r1,h1,(hs _ _ h0 h2).1,(hs _ _ h0 h2).2,RX.turn hs h3⟩):a:=k
theorem vd(k:a:=by exact κ (bH P d 0 l s wr hp true (by rw [show (s:ByteArray).data.toList=s from rfl,hf];rfl))):a:=k
theorem me(k:a:=by exact show aO sc (.bin op' a' b')++t=40::(aO sc a'++32::(op'++32::(aO sc b'++41::t))) from ma):a:=k
theorem uy(k:a:=by exact κ (bH P d 0 l s wr hp false (by rw [show (s:ByteArray).data.toList=s from rfl,hf];rfl))):a:=k
theorem qd(k:a:=by exact hy.wpOp hi ⟨hS,λh=>hT (hk h)⟩ ⟨⟨hS,λh=>hT (by rwa [getD_set_ne true hki] at h)⟩,H⟩):a:=k
theorem CF(k:a:=by exact κ (show pX 8 d (t::r)=none by rw [HQ1.o,hpx];show (aD [41] r3).map _=none;rw [aD,hw];rfl)):a:=k
theorem EW(k:a:=by exact show (op:ByteArray).size≤8 from by show op.toArray.size≤8;rw [List.size_toArray];exact e9):a:=k
theorem KT(k:a:=by exact κ (show 0+PI.length+n11=(pr++qr).length by rw [List.length_append,gM hr2,HR.o.2.2];omega)):a:=k
theorem NZ(k:a:=by exact show bE (x::s.data.toList.drop (i+1))=(⟨3,acc,0⟩,p+1,0) from by rw [hnx];exact rO hok h60):a:=k
theorem GW(k:a:=by exact show (op:ByteArray).size≤10 from by show op.toArray.size≤_;rw [List.size_toArray];exact hop):a:=k
theorem JZ(k:a:=by exact qX A c sc ac HI.o.2.2.1 _ true hwf _ va hpx2 (HI.o.1.below (hbw.trans (hbI.mono hbw.size)))):a:=k
theorem KD(k:a:=by exact hnx.turn (Turn.mono λk (hk:_≤k) _=>show wr.heap.size≤k from Nat.le_trans HM.o.1.size hk)):a:=k
theorem IE(k:a:=by exact heap_alloc_new wr (.cells #[.int .u8 rk,.int .u8 rvk,rvi,rvs,rvb,rt,rs0,.slice rA rn rc] 60)):a:=k
theorem js(k:a:=by exact show (t==[])=false from by unfold jJ at hh;simp only [Bool.or_eq_false_iff] at hh;exact hh.1):a:=k
theorem jt(k:a:=by exact show (tn==t)=false from by unfold jJ at hh;simp only [Bool.or_eq_false_iff] at hh;exact hh.2):a:=k
theorem pz(k:a:=by obtain ⟨a, -,rfl⟩:=Option.map_eq_some_iff.1 h;exact ⟨λ_=>rfl,λ_=>rfl,λ_=>rfl,λ_ _=>rfl⟩):a:=k
theorem MD(k:a:=by exact κ (HS.o.next (w':=w15.drewN nq) hP0 (Drawn.but ⟨nq,rfl⟩) (HS.o.ro.low HS.o.ro.lt (nX nq (θ))))):a:=k
theorem OJ(k:a:=by exact show (s.extract i j).data.toList=(s.data.toList.drop i).take (j-i) from Lib.extract_data _ _ _):a:=k
theorem PA(k:a:=by exact κ (ι ((H0.o.1.trans (hb1.mono H0.o.1.size)).trans (hb2.mono (Nat.le_of_lt hBP))) (aA hz1 hb2))):a:=k
theorem qi(k:a:=by exact show Below w0 w w5 from (((Below.refl w w).alloc (ν _) ob).drew |>.mono hi.but.size).trans hb5):a:=k
theorem xy(k:a:=by exact show fP r'=(aD cE r').map (λq=>(false,q)) from by unfold fP;rw [if_neg (by rw [hn];decide)]):a:=k
theorem yq(k:a:=by exact show (w.alloc (.cells rcZ.cells.toArray 60)).heap.size=w.heap.size+1 from World.size_alloc _ _):a:=k
theorem AK(k:a:=by rw [dD,eF,if_neg hk2,if_neg hk3,if_neg zo,if_neg zr,if_neg DW,if_neg DV,if_pos (by rw [fy];simp)];rfl):a:=k
theorem td(k:a:=by exact heap_alloc_new (w.alloc (.cells #[.slice A sc.length c,gr] 139)).drew (.cells #[.iface T g2] 66)):a:=k
theorem DU(k:a:=by exact bodyPost_ret (v:=RC.val (rc0 6 aJ)) (by simp [results,results134,go_sem,hcE,RC.val,rc0]) rfl HE.o):a:=k
theorem FK(k:a:=by exact κ (show ST++stc ⟨tn,cs⟩ (cs.take (j+1))=L++[(.col tn cn,[])] by rw [hstep, <-List.append_assoc,hL])):a:=k
theorem BW(k:a:=by exact κ (show Calls prog 85 #[P,.int .i64 1] _ _ from HF.o _ r.tail (by rw [List.length_tail];omega) hp7)):a:=k
theorem FH(k:a:=by exact ⟨((hbut.trans (But.of hW)).then (hb.mono hB)).trans (But.set _ _ _ _),gJ hq5,hp5.set hq5 hlt am am⟩):a:=k
theorem rh(k:a:=by exact κ (H.o.fin H0.o.2.1.lt H0.o.2.2.1 H0.o.2.2.2.1 H0.o.2.2.2.2 hap okC (C':=noC) (λ_ _ _=>trivial))):a:=k
theorem FI(k:a:=by exact show Below Wo Wo wr from HO.o.2.2.2.2.2.1.trans (But.below hQ.1 HO.o.2.2.2.2.2.2 (Nat.le_of_lt hlt))):a:=k
theorem PU(k:a:=by exact λ(Wq:World) (hb':Below w w Wq)=>ι (β (aA hq hb')) (ι (bW zi hb') (ι (bW zn hb') (β (aA hb hb'))))):a:=k
theorem qo(k:a:=by exact show ∀ o,(w.alloc o).cell? ⟨bx,0,none⟩=some (.pointer (some ⟨gi,0,none⟩)) from λo=>β (aB hbx o) 0):a:=k
theorem xw(k:a:=by exact hx4.far (g:=P) (o:=1) (v:=.int .i64 ((i:Int)+1)) (λk hk _=>by have:w.heap.size+1≤k∧k≠G:=hk;omega)):a:=k
theorem KO(k:a:=by exact show (dJ (aE l) s).length≤40 from by rw [dJ,List.length_append,List.length_map,List.length_map];omega):a:=k
theorem vp(k:a:=by exact show Below w1 w1 (w1.alloc (.cells #[.int .u8 k,.int .u8 vk,vi,vs,vb,tt,ss,.slice A nn c] 60)) from ρ):a:=k
theorem BT(k:a:=by exact bodyPost_ret (v:=RC.val (rcP 6 dZ v9 1)) (by simp [results,results134,go_sem,hcE,RC.val,rcP]) rfl HE.o):a:=k
theorem DB(k:a:=by exact bodyPost_ret (v:=RC.val (rcP 6 fT v9 1)) (by simp [results,results134,go_sem,hcE,RC.val,rcP]) rfl HE.o):a:=k
theorem DK(k:a:=by exact bodyPost_ret (v:=RC.val (rcP 6 fX v9 1)) (by simp [results,results134,go_sem,hcE,RC.val,rcP]) rfl HE.o):a:=k
theorem DR(k:a:=by exact bodyPost_ret (v:=RC.val (rcP 6 aJ v9 1)) (by simp [results,results134,go_sem,hcE,RC.val,rcP]) rfl HE.o):a:=k
theorem KX(k:a:=by exact β (heap_alloc_new wr (.cells #[.int .u8 rk,.int .u8 rvk,rvi,rvs,rvb,rt,rs0,.slice rA rn rc,nm,ds] 72))):a:=k
theorem BR(k:a:=by exact κ (dV P (d+1) 0 r ⟨#[40]⟩ _ HP6.o (by rw [show (⟨#[40]⟩:ByteArray).data.toList=[40] from rfl,hw0];rfl))):a:=k
theorem gl(k:a:=by exact show 0≤Lib.indexByte [40,41,44,59,42,43,45,47,37,61,60,62,46] (s[0]'h1) from of_decide_eq_true hsg.symm):a:=k
theorem pg(k:a:=by exact κ (HC.o.mono (λe w2 (hx:XPost P w.drew 0 none e w2)=>(show But P w.drew w2∧∃ c,e=aT c∧c≠0 from hx)))):a:=k
theorem OR(k:a:=by exact show (s.extract i s.size).data.toList=(s.data.toList.drop i).take (s.size-i) from Lib.extract_data _ _ _):a:=k
theorem lh(k:a:=by exact κ (λ(h:bs[k]=true)=>(show bs.any id=true from List.any_eq_true.2 ⟨true,h▸List.getElem_mem hltb,rfl⟩))):a:=k
theorem ow(k:a:=by exact show Below w w ((w.alloc (.cells #[.nilIface] 28)).alloc (.cells #[.int .i64 0] 29)) from (ρ).alloc aa _):a:=k
theorem ti(k:a:=by exact heap_alloc_new (w.alloc (.cells #[.slice A sc.length c,gr] 139)) (.cells #[.iface T1 g1,.iface T2 g2] 66)):a:=k
theorem FR(k:a:=by exact show Below w w (w.alloc (.cells #[.int .u8 1,.int .u8 k,.int .i64 i,s,b,(),(),.slice none 0 0] 60)) from ρ):a:=k
theorem JD(k:a:=by exact show w5.ownsRow B 53 1 (.slice A5 (n+1) c5) (gs.length+1) (gs.map ptr++[ptr g]) from by rw [hgl];exact ho5):a:=k
theorem NL(k:a:=by exact show ∀ o n,Below w w ((w.alloc o).drewN n) from λo n=>((Below.refl w w).alloc (ν _) o).trans (jM _ _ _)):a:=k
theorem AB(k:a:=by exact κ (bH P d 0 (t::r) ⟨#[40]⟩ v3 HP.o true (by rw [show (⟨#[40]⟩:ByteArray).data.toList=[40] from rfl,fy];rfl))):a:=k
theorem LG(k:a:=by exact κ (hp.below ((θ).alloc (ν _) (.cells #[.int .u8 k,.int .u8 vk,vi,s0,vb,tt,ss,.slice Ae nn ce,(),false] 72)))):a:=k
theorem fh(k:a:=by exact show ∀ o1 o2,Below w w ((w.alloc o1).alloc o2) from λo1 o2=>((Below.refl w w).alloc (ν _) o1).alloc aa o2):a:=k
theorem AU(k:a:=by exact κ (bH P d 0 (t::r) ⟨#[40]⟩ v3 HP.o false (by rw [show (⟨#[40]⟩:ByteArray).data.toList=[40] from rfl,f3];rfl))):a:=k
theorem GA(k:a:=by exact show Below wr wr (wr.alloc (.cells #[.int .u8 rk,.int .u8 rvk,rvi,rvs,rvb,rt,rs0,.slice rA rn rc] 60)) from ρ):a:=k
theorem QA(k:a:=by exact show Below w w (w.alloc (.cells #[.int .u8 2,.int .u8 0,.int .i64 0,(),false,t,s,.slice none 0 0] 60)) from ρ):a:=k
theorem iw(k:a:=by exact bodyPost_ret (v:=.tuple #[.agg #[.int .u8 0,(),.int .i64 0],.int .i64 (0),.int .i64 (4)]) jk rfl (jH HN.o hbE)):a:=k
theorem wa(k:a:=by exact bodyPost_ret (v:=RC.val ⟨k,vk,vi,vs,vb,tt,ss,A,nn,c⟩) (by simp [results,results85,go_sem,hcE,RC.val]) rfl HE.o):a:=k
theorem yr(k:a:=by exact bodyPost_ret (v:=RC.val ⟨k,vk,vi,vs,vb,tt,ss,A,nn,c⟩) (by simp [results,results85,go_sem,hcE,RC.val]) rfl HR.o):a:=k
theorem AC(k:a:=by exact bodyPost_ret (v:=RC.val ⟨k,vk,vi,vs,vb,tt,ss,A,nn,c⟩) (by simp [results,results134,go_sem,hcE,RC.val]) rfl HE.o):a:=k
theorem jg(k:a:=by exact (k1.trans (b2.mono k1.size)).alloc (Nat.le_trans k1.size b2.size) (.cells #[.int .u8 2,.int .i64 0,t,false] 58)):a:=k
theorem jy(k:a:=by exact κ (show HL++cJ s ND (cs.take (j+1))=HJ++(if cn==s then [(ND+j,ck)] else []) by rw [hstep, <-List.append_assoc,hHJ])):a:=k
theorem pf(k:a:=by exact κ ((iQ P l.length 0 (by have:=hs.1;omega)).e w.drew l (ν _) hp hs (show Resv w.drew from hR0.but hp0 hi.but.drew))):a:=k
theorem JB(k:a:=by exact show ∀ b,b≠g->(w.setCell ⟨g,j,none⟩ v).heap[b]? = w.heap[b]?  from  λb hb=>Below.heap_setCell w ⟨g,j,none⟩ v b hb):a:=k
theorem KY(k:a:=by exact show Below wr wr (wr.alloc (.cells #[.int .u8 rk,.int .u8 rvk,rvi,rvs,rvb,rt,rs0,.slice rA rn rc,nm,ds] 72)) from ρ):a:=k
theorem th(k:a:=by exact aS (w:=((w.alloc (.cells #[.slice A sc.length c,gr] 139)).alloc (.cells #[.iface T1 g1,.iface T2 g2] 66)).drew) _ h):a:=k
theorem ww(k:a:=by exact (RX.below hb3 HX.o).far (g:=P) (o:=1) (v:=.int .i64 ((i:Int)+1)) (λk hk _=>by have:w.heap.size+1≤k∧k≠G:=hk;omega)):a:=k
theorem BX(k:a:=by exact mZ (G:=u0) (.cells #[.int .u8 k,.int .u8 vk,vi,vs,vb,tt,ss,.slice A nn c] 60) (.slice (some ⟨v9,0,none⟩) 1 1) hbad9 ac):a:=k
theorem gh(k:a:=by exact show Lib.indexByte [40,41,44,59,42,43,45,47,37,61,60,62,46] (s[0]'h1)<0 from by have:=of_decide_eq_false hsg.symm;omega):a:=k
theorem wj(k:a:=by exact κ (show RX (Sx w G) (w3.setCell ⟨P,1,none⟩ (.int .i64 ((i:Int)+1))).drew x ⟨k,vk,vi,vs,vb,tt,ss,A,nn,c⟩ from RX.drew hx4)):a:=k
theorem ye(k:a:=by exact κ (dV P d 0 r' ⟨#[110,117,108,108]⟩ _ hp7 (by rw [show (⟨#[110,117,108,108]⟩:ByteArray).data.toList=cE from rfl,hw];rfl))):a:=k
theorem DD(k:a:=by exact κ (bH P d 0 (t::r) ⟨#[109,97,120]⟩ v7 HP.o true (by rw [show (⟨#[109,97,120]⟩:ByteArray).data.toList=kL from rfl,fy];rfl))):a:=k
theorem nd(k:a:=by exact κ (show PX w (w4.setCell ⟨w2,1,none⟩ (.iface T4 g4)) (.agg UP x) (.iface 204 w2) from ⟨_,_,hz2,rfl,by simpa using hx5,hy5⟩)):a:=k
theorem AQ(k:a:=by exact (HA.o.but (But.alloc P u0 (.cells #[.int .u8 6,.int .u8 0,.int .i64 0,(),false,(),(),.slice none 0 0] 60)) hP).cells.2.2.2.1):a:=k
theorem AR(k:a:=by exact κ (bH P d 0 (t::r) ⟨#[115,117,109]⟩ v5 HP.o true (by rw [show (⟨#[115,117,109]⟩:ByteArray).data.toList=gG from rfl,fy];rfl))):a:=k
theorem CP(k:a:=by exact κ (bH P d 0 (t::r) ⟨#[109,105,110]⟩ v6 HP.o true (by rw [show (⟨#[109,105,110]⟩:ByteArray).data.toList=jA from rfl,fy];rfl))):a:=k
theorem CQ(k:a:=by exact κ (bH P d 0 (t::r) ⟨#[115,117,109]⟩ v5 HP.o false (by rw [show (⟨#[115,117,109]⟩:ByteArray).data.toList=gG from rfl,f5];rfl))):a:=k
theorem DE(k:a:=by exact κ (bH P d 0 (t::r) ⟨#[109,105,110]⟩ v6 HP.o false (by rw [show (⟨#[109,105,110]⟩:ByteArray).data.toList=jA from rfl,f6];rfl))):a:=k
theorem yk(k:a:=by exact κ (aH P d 0 r' ⟨#[110,111,116]⟩ W6 HW6.o.2.2 true (by rw [show (⟨#[110,111,116]⟩:ByteArray).data.toList=oV from rfl,hn];rfl))):a:=k
theorem iz(k:a:=by exact show Hd0 (∀ W,eQ W->Calls prog 115 #[s] W λe w'=>e=.returned (.tuple #[t,((n:Int)+1:Int)])∧Below W.heap.size W w') from κ cS):a:=k
theorem yb(k:a:=by exact κ (aH P d 0 r' ⟨#[110,111,116]⟩ W6 HW6.o.2.2 false (by rw [show (⟨#[110,111,116]⟩:ByteArray).data.toList=oV from rfl,hn];rfl))):a:=k
theorem yl(k:a:=by exact κ (dV P d 0 r'.tail ⟨#[110,117,108,108]⟩ _ hp8 (by rw [show (⟨#[110,117,108,108]⟩:ByteArray).data.toList=cE from rfl,hw];rfl))):a:=k
theorem ez(k:a:=by exact show ∀ ty,(Instr.next (.pointer (some ⟨w,0,none⟩)) true ty).run prog wr=_ from λty=>Lib.run_next_any_at wr w s pos ty hit hp):a:=k
theorem fe(k:a:=by exact show ∀ ty,(Instr.next (.pointer (some ⟨w,0,none⟩)) true ty).run prog wr=_ from λty=>Lib.run_next_end_at wr w s pos ty hit hp):a:=k
theorem ej(k:a:=by exact show ∀ (fn:Fn) (first cap:ZV) (w:World),(Instr.makeFunc fn first cap).run prog w=.ok (.func fn first cap) w from λ_ _ _ _=>rfl):a:=k
theorem tc(k:a:=by exact show Below w w ((w.alloc (.cells #[.slice A sc.length c,gr] 139)).drew.alloc (.cells #[.iface T g2] 66)) from hb0.drew.alloc aa _):a:=k
theorem OD(k:a:=by exact ((hbw.trans (hbo.mono hsz)).alloc (Nat.le_trans hsz hbo.size) (.cells #[.int .u8 2,.int .i64 0,acc,false] 58)).trans (hb5.mono NP)):a:=k
theorem xg(k:a:=by exact sV (done':=false) hL5 hx5 hq5 (show G<(w3.setCell ⟨P,1,none⟩ (.int .i64 ((i:Int)+1))).drew.heap.size from hGs) rfl hG hP HPX4.o wt):a:=k
theorem wl(k:a:=by exact κ (show Lev w G P w (w3.setCell ⟨P,1,none⟩ (.int .i64 ((i:Int)+1))).drew ⟨k,vk,vi,vs,vb,tt,ss,A,nn,c⟩ from ⟨hL4.b.drew,hL4.z,hL4.x⟩)):a:=k
theorem AP(k:a:=by exact show Below u0 u0 (u0.alloc (.cells #[.int .u8 6,.int .u8 0,.int .i64 0,(),false,(),.string ⟨#[83,85,77]⟩,.slice none 0 0] 60)) from ρ):a:=k
theorem CT(k:a:=by exact show Below u0 u0 (u0.alloc (.cells #[.int .u8 6,.int .u8 0,.int .i64 0,(),false,(),.string ⟨#[77,73,78]⟩,.slice none 0 0] 60)) from ρ):a:=k
theorem DF(k:a:=by exact show Below u0 u0 (u0.alloc (.cells #[.int .u8 6,.int .u8 0,.int .i64 0,(),false,(),.string ⟨#[77,65,88]⟩,.slice none 0 0] 60)) from ρ):a:=k
theorem sr(k:a:=by exact κ (show CSt P w l 4 _ from ⟨_,_,by rw [bO HE.o];show (whF _).map _=_;rw [show whF r9=some (x10,r10) from by exact HQr10.o];rfl,HS.o⟩)):a:=k
theorem zq(k:a:=by exact κ (aH P d 0 (t::r) ⟨#[110,117,108,108]⟩ v0 HP.o false (by rw [show (⟨#[110,117,108,108]⟩:ByteArray).data.toList=cE from rfl,f0];rfl))):a:=k
theorem zt(k:a:=by exact κ (aH P d 0 (t::r) ⟨#[116,114,117,101]⟩ v1 HP.o false (by rw [show (⟨#[116,114,117,101]⟩:ByteArray).data.toList=dU from rfl,f1];rfl))):a:=k
theorem yd(k:a:=by exact κ (show pX 4 d l=none by rw [HPX4.o];show (match fP r' with|none=>none|some (n,r)=>pL 4 d (Lp.X.isn n x) done r)=none;rw [hnl,aD,hw];rfl)):a:=k
theorem yo(k:a:=by exact κ (show pX 4 d l=none by rw [HPX4.o];show (match fP r' with|none=>none|some (n,r)=>pL 4 d (Lp.X.isn n x) true r)=none;rw [hnl,aD,hw];rfl)):a:=k
theorem DN(k:a:=by exact κ (bH P d 0 (t::r) ⟨#[99,111,117,110,116]⟩ v4 HP.o true (by rw [show (⟨#[99,111,117,110,116]⟩:ByteArray).data.toList=bF from rfl,fy];rfl))):a:=k
theorem AS(k:a:=by exact κ (bH P d 0 (t::r) ⟨#[99,111,117,110,116]⟩ v4 HP.o false (by rw [show (⟨#[99,111,117,110,116]⟩:ByteArray).data.toList=bF from rfl,f4];rfl))):a:=k
theorem DM(k:a:=by exact show Below u0 u0 (u0.alloc (.cells #[.int .u8 6,.int .u8 0,.int .i64 0,(),false,(),.string ⟨#[67,79,85,78,84]⟩,.slice none 0 0] 60)) from ρ):a:=k
theorem jd(k:a:=by exact ((k3.setCell (p:=⟨w,0,none⟩) (ν _) (.int .u8 0)).setCell (p:=⟨w,1,none⟩) (ν _) (.string ⟨#[]⟩)).setCell (p:=⟨w,2,none⟩) (ν _) (.int .i64 0)):a:=k
theorem zv(k:a:=by exact κ (aH P d 0 (t::r) ⟨#[102,97,108,115,101]⟩ v2 HP.o false (by rw [show (⟨#[102,97,108,115,101]⟩:ByteArray).data.toList=cX from rfl,f2];rfl))):a:=k
theorem tf(k:a:=by exact β (aA (show (w.alloc (.cells #[.slice A sc.length c,gr] 139)).drew.heap[w.heap.size]? = _ from hz0) ((θ).alloc (ν _) (.cells #[.iface T g2] 66)))):a:=k
theorem tg(k:a:=by exact show Below w w ((w.alloc (.cells #[.slice A sc.length c,gr] 139)).alloc (.cells #[.iface T1 g1,.iface T2 g2] 66)).drew from (hb0.alloc aa _).drew):a:=k
theorem yt(k:a:=by exact Ex hq ((But.of H0.o.2.1).trans HD.o.but) (by have:=HD.o.but (P:=P) |>.size;have:=H0.o.2.2.2;omega) hP ⟨rcZ,aL HD.o.but H0.o.2.2.1 (Nat.ne_of_gt hP)⟩):a:=k
theorem AY(k:a:=by exact show u0.heap.size<(u0.alloc (.cells #[.int .u8 6,.int .u8 0,.int .i64 0,(),false,(),.string ⟨#[83,85,77]⟩,.slice none 0 0] 60)).heap.size from aG hL2.x):a:=k
theorem CU(k:a:=by exact show u0.heap.size<(u0.alloc (.cells #[.int .u8 6,.int .u8 0,.int .i64 0,(),false,(),.string ⟨#[77,73,78]⟩,.slice none 0 0] 60)).heap.size from aG hL2.x):a:=k
theorem DG(k:a:=by exact show u0.heap.size<(u0.alloc (.cells #[.int .u8 6,.int .u8 0,.int .i64 0,(),false,(),.string ⟨#[77,65,88]⟩,.slice none 0 0] 60)).heap.size from aG hL2.x):a:=k
theorem zj(k:a:=by exact (H0.o.1.drawn (w':=(w.alloc (.cells rcZ.cells.toArray 60)).drewN (nq+1)) ⟨nq+1,rfl⟩).below ((θ).alloc (ν _) (.cells #[.int .u8 t.k,t.s,.int .i64 t.n] 173))):a:=k
theorem DO(k:a:=by exact show u0.heap.size<(u0.alloc (.cells #[.int .u8 6,.int .u8 0,.int .i64 0,(),false,(),.string ⟨#[67,79,85,78,84]⟩,.slice none 0 0] 60)).heap.size from aG hL2.x):a:=k
theorem BA(k:a:=by exact show Lev w u0 P w (u0.alloc (.cells #[.int .u8 6,.int .u8 0,.int .i64 0,(),false,(),.string ⟨#[83,85,77]⟩,.slice none 0 0] 60)) (rc0 6 dZ) from HA.o.lev (rc0 6 dZ)):a:=k
theorem CY(k:a:=by exact show Lev w u0 P w (u0.alloc (.cells #[.int .u8 6,.int .u8 0,.int .i64 0,(),false,(),.string ⟨#[77,73,78]⟩,.slice none 0 0] 60)) (rc0 6 fT) from HA.o.lev (rc0 6 fT)):a:=k
theorem DH(k:a:=by exact show Lev w u0 P w (u0.alloc (.cells #[.int .u8 6,.int .u8 0,.int .i64 0,(),false,(),.string ⟨#[77,65,88]⟩,.slice none 0 0] 60)) (rc0 6 fX) from HA.o.lev (rc0 6 fX)):a:=k
theorem DP(k:a:=by exact show Lev w u0 P w (u0.alloc (.cells #[.int .u8 6,.int .u8 0,.int .i64 0,(),false,(),.string ⟨#[67,79,85,78,84]⟩,.slice none 0 0] 60)) (rc0 6 aJ) from HA.o.lev (rc0 6 aJ)):a:=k
theorem sf(k:a:=by exact κ (H.o.fin H0.o.2.1.lt H0.o.2.2.1 H0.o.2.2.2.1 H0.o.2.2.2.2 hap OK.o (C':=CE w0 s0 6 cs0 (EL2 (ROr w0) (acc++[(x,false)]))) (λw' h k=>k.app λhn=>EL2.app ⟨h _ rfl,rfl⟩ hn))):a:=k
theorem MU(k:a:=by exact bodyPost_ret (v:=.agg #[.int .u8 k,s1,s2,s3,.slice A4 n4 c4,.slice A5 n5 c5,.slice A6 n6 c6,.slice A7 n7 c7,.slice A8 n8 c8,.slice A9 n9 c9,.slice A10 n10 c10,.slice A11 n11 c11,.int .i64 li]) MV rfl hR.1):a:=k
theorem KL(k:a:=by exact show Below w w (w.alloc (.cells #[.int .u8 k,s1,s2,s3,.slice A4 n4 c4,.slice A5 n5 c5,.slice A6 n6 c6,.slice A7 n7 c7,.slice A8 n8 c8,.slice A9 n9 c9,.slice A10 n10 c10,.slice A11 n11 c11,.int .i64 li] 38)) from ρ):a:=k
theorem ph(k:a:=by exact κ (HC.o.mono (λe w2 (hx:XPost P w.drew 0 (some (x,r)) e w2)=>(show But P w.drew w2∧∃ T g,e=.returned (.iface T (.pointer (some ⟨g,0,none⟩)))∧PX w.drew w2 x (.iface T (.pointer (some ⟨g,0,none⟩)))∧PS w2 P r 0 from hx)))):a:=k
theorem tj(k:a:=by exact show Below (w.alloc (.cells #[.slice A sc.length c,gr] 139)) (w.alloc (.cells #[.slice A sc.length c,gr] 139)) ((w.alloc (.cells #[.slice A sc.length c,gr] 139)).alloc (.cells #[.iface T1 g1,.iface T2 g2] 66)).drew from (ρ).drew):a:=k
theorem KS(k:a:=by exact show ∀ j,w8.cell? ⟨w.heap.size,j,none⟩=(#[.int .u8 k,s1,s2,s3,.slice A4 n4 c4,.slice A5 n5 c5,.slice A6 n6 c6,.slice A7 n7 c7,.slice A8 n8 c8,.slice A9 n9 c9,.slice A10 n10 c10,.slice A11 n11 c11,.int .i64 li]:ZV)[j]?  from  β (aA HBX.o HB9.o)):a:=k
theorem PM(k:a:=by exact show ∀ j,w8.cell? ⟨w.heap.size,j,none⟩=(#[.int .u8 k,s1,s2,s3,.slice A4 n4 c4,.slice A5 n5 c5,.slice A6 n6 c6,.slice A7 n7 c7,.slice A8 n8 c8,.slice A9 n9 c9,.slice A10 s.group.length c10,.slice A11 n11 c11,.int .i64 li]:ZV)[j]?  from  β (aA HBX.o HB9.o)):a:=k
end
def Hd0(p:Prop):Prop:=p
theorem Hd0.o{p:Prop}(h:Hd0 p):p:=h
abbrev ZS:=List UInt8
abbrev ZT:=Option Addr
abbrev ZU:=List Value
abbrev ZV:=Array Value
variable{B g n:Nat}{o:Obj}{r:Option Nat}{e t:TypeId}{v:Value}{w w':World}{l:ZS}{A:ZT}{xs:ZU}{cs:ZV}
theorem ν(n:Nat):n≤n:=Nat.le_refl n
theorem ρ:Below w w (w.alloc o):=(Below.refl _ _).alloc (Nat.le_refl _) _
theorem θ:Below B w w:=Below.refl _ _
theorem η{α:Type}[BEq α][LawfulBEq α]{a b:α}(h:a ≠ b):(a == b)=false:=beq_eq_false_iff_ne.2 h
theorem γ{α:Type}(l:List α)(i:Nat):l.toArray[i]? = l[i]? := by simp
theorem δ{α:Type}(a:α)(l:List α):(a::l)[0]? = some a := rfl
theorem ε{α:Type}(a:α)(l:List α)(i:Nat):(a::l)[i+1]? = l[i]? := rfl
theorem μ{P:Program}{f:FuncId}{a:ZV}{R Q:Ending->World->Prop}(h:Hd0 (Calls P f a w R))(k:∀ e w',R e w'->Q e w'):Calls P f a w Q:=Calls.mono h k
theorem φ:(false=true)=False:=aa
theorem κ{p:Prop}(h:p):Hd0 p:=h
theorem ι{a b:Prop}(x:a)(y:b):a∧b:=⟨x,y⟩
def Rds (w:World) (A:ZT) (xs:ZU):Prop :=
 xs=[]∨∃ b off,A=some ⟨b,off,none⟩∧∀ j u,xs[j]? = some u->w.cell? ⟨b,off+j,none⟩=some u
section
variable {w w':World} {A:ZT} {xs:ZU}
theorem Rds.nil_:Rds w A []:=.inl rfl
theorem Rds.at_ (h:Rds w A xs) {k:Nat} {u:Value} (hk:xs[k]? = some u):∃ b off,A=some ⟨b,off,none⟩∧w.cell? ⟨b,off+k,none⟩=some u:=by
 rcases h with rfl|⟨b,off,hA,hc⟩
 ·simp at hk
 ·exact ⟨b,off,hA,hc k u hk⟩
theorem Rds.below (h:Rds w A xs) (hb:Below w w w'):Rds w' A xs:=by
 rcases h with rfl|⟨b,off,hA,hc⟩
 ·exact ab
 ·exact .inr ⟨b,off,hA,λj u hu=>(hb.cell (p:=⟨b,off+j,none⟩) (World.block_lt_of_cell? w _ (hc j u hu))).trans (hc j u hu)⟩
theorem Rds.take (h:Rds w A xs) (k:Nat):Rds w A (xs.take k):=by
 rcases h with rfl|⟨b,off,hA,hc⟩
 ·exact .inl aa
 ·refine .inr ⟨b,off,hA,λj u hu=>hc j u ?_⟩;rw [List.getElem?_take] at hu
  split at hu
  ·exact hu
  ·cases hu
theorem Rds.drop (h:Rds w A xs) (k:Nat) {cap:Nat} (hc:xs.length≤cap):Rds w (if cap=k then A else A.map (·.add (k*1))) (xs.drop k):=by
 rcases h with rfl|⟨b,off,rfl,hc2⟩
 ·exact .inl aa
 ·by_cases hk:cap=k
  ·exact .inl (List.drop_eq_nil_of_le ac)
  ·rw [if_neg hk];refine .inr ⟨b,off+k, ?_,λj u hu => ?_⟩
   ·simp only [Option.map_some,Option.some.injEq,Addr.add,Nat.mul_one]
    by_cases h0:k=0<;>simp [h0]
   ·rw [List.getElem?_drop] at hu;rw [Nat.add_assoc];exact hc2 _ u hu
theorem dL (w:World) (xs:ZU) (t:TypeId):Rds (w.alloc (.cells xs.toArray t)) (some ⟨w,0,none⟩) xs:=by
 refine .inr ⟨_,0,rfl,λj u hu => ?_⟩;rw [cell_of_row (w.alloc (.cells xs.toArray t)) w (0+j) xs.toArray t (0,0) (heap_alloc_new w _)]
 simpa using hu
theorem pJ (h:Rds w A xs):Rds w.drew A xs:=h
theorem sP {B n size:Nat} {e:TypeId} {v:Value} (h:w.ownsRow B e size v n xs):∃ A c,v=.slice A n c∧n≤c:=by
 rcases h.2 with ⟨rfl,rfl⟩|⟨g,cap,cur,rfl,_,_,h1,_⟩
 ·exact ⟨none,0,rfl,ν _⟩
 ·exact ⟨_,cap,rfl,h1⟩
theorem Rds.own {B n c size:Nat} {e:TypeId} (h:w.ownsRow B e size (.slice A n c) n xs):Rds w A xs:=by
 rcases Nat.eq_zero_or_pos n with h0|h0
 ·left;exact af
 ·obtain ⟨g,cap,hv,hg,_⟩:=h.form h0;injection hv with hA _ _;subst hA;refine .inr ⟨g,0,rfl,λj u hu => ?_⟩;have:=h.cells (g:=g) rfl j u hu;have e:=ag
  rw [e] at this;exact ah
end
theorem cU {size:Nat} (h:w.ownsRow B e size v n xs) (hg:w.heap[g]? = some (.cells cs t (0,0))) (hne:e≠t):some g≠v.ownBlock:=by
 rcases h.2 with ⟨rfl,_⟩|⟨g',cap,cur,rfl,_,hh,_⟩
 ·simp [Value.ownBlock]
 ·intro he;have:g=g':=by simpa [Value.ownBlock] using he
  subst this;rw [hh] at hg;injection hg with hg;injection hg with _ ht;exact hne ht
theorem aG (h:w.heap[g]? = some o):g<w.heap.size:=(Array.getElem?_eq_some_iff.1 h).1
theorem aB (h:w.heap[g]? = some o) (o2:Obj):(w.alloc o2).heap[g]? = some o:=(Below.heap_alloc w o2 g (aG h)).trans h
theorem aA {w2:World} (h:w.heap[g]? = some o) (hb:Below w w w2):w2.heap[g]? = some o:=(hb.block g (aG h)).trans h
theorem bX (h:w.heap[g]? = some o):w.drew.heap[g]? = some o:=h
theorem bG (w:World) (a b:Obj):((w.alloc a).alloc b).heap[w.heap.size+1]? = some b:=by
 have h:=heap_alloc_new (w.alloc a) b;rw [World.size_alloc] at h;exact h
theorem Sh (h:w.heap[g]? = some (.cells cs t (0,0))):∀ j,w.cell? ⟨g,j,none⟩=cs[j]? := λj=>cell_of_row w g j cs t (0,0) h
theorem β(h:w.heap[g]? = some (.cells cs t (0,0))):∀ j,w.cell? ⟨g,j,none⟩ = cs[j]? := Sh h
def fL (w w':World) (r r':Option Nat):Prop:=∀ g o,w.heap[g]? = some o->some g≠r->w'.heap[g]? = some o∧some g≠r'
theorem Yg {r':Option Nat} (hg:w.grownBy w' r) (hat:r'=r∨r'=some w.heap.size):fL w w' r r':=by
 intro g o ho hne;have hlt:=aG ho;refine ⟨(hg.block g hlt hne).trans ho, ?_⟩;rcases hat with h|h
 ·rw [h];exact hne
 ·rw [h];intro e;injection e with e;omega
theorem aS {fr:Nat×Nat} (cs:ZU) (h:w.heap[g]? = some (.cells cs.toArray t fr)):Rds w (some ⟨g,0,none⟩) cs:=by
 refine .inr ⟨_,0,rfl,λj u hu => ?_⟩;rw [cell_of_row w g (0+j) cs.toArray t fr h]
 simpa using hu
theorem stays (hg:w.grownBy w' r) (ho:w.heap[g]? = some o) (hne:some g≠r):w'.heap[g]? = some o:=(hg.block g (aG ho) hne).trans ho
theorem fW {size:Nat} (h:w.ownsRow B e size v n xs) (hg:w.heap.size≤g):some g≠v.ownBlock:=by
 intro e;have:=(h.lt g e.symm).2;omega
section
variable {P:Program} (w:World)
theorem Fy (base:Nat) (t ty e:TypeId) (i:TypeInfo) (size:Nat) (ht:P.underlying t=some (.slice e)) (hi:P.info? e=some i)
 (v:Value) (n:Nat) (xs:ZU) (hown:w.ownsRow base e size v n xs) (c:Nat):(Builtin.append_ #[t,t] ty #[v,.slice none 0 c]).run P w=.ok v w:=by
 rcases hown.2 with ⟨rfl,rfl⟩|⟨g,cap,cur,rfl,_,_,hnc,_⟩
 ·simp [Builtin.append_,run_underlying ht,sizeOf,typeInfo,hi,Builtin.lenOf,Builtin.firstCells]
 ·simp [Builtin.append_,run_underlying ht,sizeOf,typeInfo,hi,Builtin.lenOf,Builtin.firstCells,hnc,storeCells]
theorem Tf {o:Oper} {a:Act} {K:Act->World->Prop} {Q:Exit->Act->World->Prop} (s x:Operand) (t:TypeId)
 (ho:o.op=.call { callee:=.builtin .append,args:=#[s,x],argTypes:=#[t,t] })
 (base:Nat) (e:TypeId) (i:TypeInfo) (z:Value) (size bytes:Nat) (ht:P.underlying t=some (.slice e)) (hi:P.info? e=some i) (hz:i.zero=some z)
 (hsize:i.size=size) (hby:i.bytes=bytes) (hzs:z.cells.size=size) (hsz:0<size)
 (A0:ZT) (n c0:Nat) (xs:ZU) (hs:a.eval s=.slice A0 n c0) (hown:w.ownsRow base e size (.slice A0 n c0) n xs)
 (A:ZT) (m c:Nat) (news:ZU) (hx:a.eval x=.slice A m c) (hl:news.length=m*size) (hr:Rds w A news) (h1:∀ u∈news,u.oneCell'=true)
 (h63:n+m≤maxLen) (hbytes:(n+m)*bytes≤140737488355328) (hbase:base≤w.heap.size)
 (h:∀ A' c' w',w'.ownsRow base e size (.slice A' (n+m) c') (n+m) (xs++news)->Below base w w'->w.grownBy w' (Value.ownBlock (.slice A0 n c0))->fL w w' (Value.ownBlock (.slice A0 n c0)) (Value.ownBlock (.slice A' (n+m) c'))->K (a.put o.dst (.slice A' (n+m) c')) w'):o.wp P a w K Q:=by
 have fin:∀ v' w',(Builtin.append_ #[t,t] o.type #[.slice A0 n c0,.slice A m c]).run P w=.ok v' w'->w'.ownsRow base e size v' (n+m) (xs++news)->w.grownBy w' (Value.ownBlock (.slice A0 n c0))->(v'.ownBlock=Value.ownBlock (.slice A0 n c0)∨v'.ownBlock=some w.heap.size)->o.wp P a w K Q:=by
  intro v' w' hrun h2 h3 hat;obtain ⟨A',c',rfl,_⟩:=sP h2;unfold Oper.wp execOp;simp only [ho,resolve,invoke,builtin,Sem.run_bind,Sem.run_pure,Result.andThen_ok,List.map_toArray,List.map_cons,List.map_nil,hs,hx,hrun];exact h A' c' w' h2 ((Below.refl base w).grown h3 hbase λk hk=>(hown.lt k hk).1) h3 (Yg h3 hat)
 rcases A with _|ad
 ·have hn:news=[]:=by
   rcases hr with h0|⟨b,off,h0,_⟩
   ·exact h0
   ·cases h0
  subst hn;have hm:m=0:=by
   simp only [List.length_nil] at hl;rcases Nat.mul_eq_zero.1 hl.symm with h0|h0
   ·exact h0
   ·omega
  subst hm;exact fin _ w (Fy w base t o.type e i size ht hi _ n xs hown c) (by simpa using hown) (World.grownBy.refl w _) (.inl rfl)
 ·have hcells:∀ j u,news[j]? = some u->w.cell? (ad.add j)=some u:=by
   intro j u hu;obtain ⟨b,off,hA,hc⟩:=hr.at_ hu;injection hA with hA;subst hA;have e:(⟨b,off,none⟩:Addr).add j=⟨b,off+j,none⟩:=ai
   rw [e];exact hc
  obtain ⟨v',w',hrun,h2,h3,_,h5⟩:=run_append_own_at (P:=P) w base t o.type e i z size bytes ht hi hz hsize hby hzs hsz _ n xs hown ad m c news hl hcells h1 h63 hbytes hbase;exact fin v' w' hrun h2 h3 h5
theorem bJ {ops:Array Oper} {rest:List Oper} {o:Oper} {a:Act} {Q:Exit->Act->World->Prop} (hgd:o.guard=none) (s x:Operand) (t:TypeId)
 (ho:o.op=.call { callee:=.builtin .append,args:=#[s,x],argTypes:=#[t,t] })
 (base:Nat) (e:TypeId) (i:TypeInfo) (z:Value) (size bytes:Nat) (ht:P.underlying t=some (.slice e)) (hi:P.info? e=some i) (hz:i.zero=some z)
 (hsize:i.size=size) (hby:i.bytes=bytes) (hzs:z.cells.size=size) (hsz:0<size)
 (A0:ZT) (n c0:Nat) (xs:ZU) (hs:a.eval s=.slice A0 n c0) (hown:w.ownsRow base e size (.slice A0 n c0) n xs)
 (A:ZT) (m c:Nat) (news:ZU) (hx:a.eval x=.slice A m c) (hl:news.length=m*size) (hr:Rds w A news) (h1:∀ u∈news,u.oneCell'=true)
 (h63:n+m≤maxLen) (hbytes:(n+m)*bytes≤140737488355328) (hbase:base≤w.heap.size)
 (h:∀ A' c' w',w'.ownsRow base e size (.slice A' (n+m) c') (n+m) (xs++news)->Below base w w'->w.grownBy w' (Value.ownBlock (.slice A0 n c0))->fL w w' (Value.ownBlock (.slice A0 n c0)) (Value.ownBlock (.slice A' (n+m) c'))->wpList P ops Q rest (a.put o.dst (.slice A' (n+m) c')) w'):wpList P ops Q (o::rest) a w :=
 wpList_plain hgd λ_ hK=>Tf w s x t ho base e i z size bytes ht hi hz hsize hby hzs hsz A0 n c0 xs hs hown A m c news hx hl hr h1 h63 hbytes hbase λA' c' w' h2 h3 h4 h5=>hK _ _ (h A' c' w' h2 h3 h4 h5)
theorem bL {ops:Array Oper} {o:Oper} {a:Act} {K:Act->World->Prop} {Q:Exit->Act->World->Prop} {E:Prop} (hgd:o.guard=none) (s x:Operand) (t:TypeId)
 (ho:o.op=.call { callee:=.builtin .append,args:=#[s,x],argTypes:=#[t,t] })
 (base:Nat) (e:TypeId) (i:TypeInfo) (z:Value) (size bytes:Nat) (ht:P.underlying t=some (.slice e)) (hi:P.info? e=some i) (hz:i.zero=some z)
 (hsize:i.size=size) (hby:i.bytes=bytes) (hzs:z.cells.size=size) (hsz:0<size)
 (A0:ZT) (n c0:Nat) (xs:ZU) (hs:a.eval s=.slice A0 n c0) (hown:w.ownsRow base e size (.slice A0 n c0) n xs)
 (A:ZT) (m c:Nat) (news:ZU) (hx:a.eval x=.slice A m c) (hl:news.length=m*size) (hr:Rds w A news) (h1:∀ u∈news,u.oneCell'=true)
 (h63:n+m≤maxLen) (hbytes:(n+m)*bytes≤140737488355328) (hbase:base≤w.heap.size)
 (h:∀ A' c' w',w'.ownsRow base e size (.slice A' (n+m) c') (n+m) (xs++news)->Below base w w'->w.grownBy w' (Value.ownBlock (.slice A0 n c0))->fL w w' (Value.ownBlock (.slice A0 n c0)) (Value.ownBlock (.slice A' (n+m) c'))->K (a.put o.dst (.slice A' (n+m) c')) w') :
 if Region.wanted o (yielded ops a.tmps)=true then Oper.wp P o a w K Q else E:=by
 have hw:Region.wanted o (yielded ops a.tmps)=true:=by simp [Region.wanted,hgd]
 rw [if_pos hw];exact Tf w s x t ho base e i z size bytes ht hi hz hsize hby hzs hsz A0 n c0 xs hs hown A m c news hx hl hr h1 h63 hbytes hbase h
end
def bv (l:ZS):ZU:=l.map λc=>.int .u8 c.toNat
theorem uK (l k:ZS):bv (l++k)=bv l++bv k:=by simp [bv]
theorem aKR {k:Nat} (h:k<l.length):(bv l)[k]? = some (.int .u8 l[k].toNat):=by
 simp [bv,List.getElem?_eq_getElem h]
def OwnB (w:World) (B:Nat) (A:ZT) (c:Nat) (l:ZS):Prop:=w.ownsRow B 5 1 (.slice A l.length c) l.length (bv l)
theorem OwnB.rds {c:Nat} (h:OwnB w B A c l):Rds w A (bv l):=Rds.own h
theorem Iz:(prog.info? 5).map (λi=>(i.zero,i.size,i.bytes))=some (some (.int .u8 0),1,1):=aj
theorem yY (n c:Nat) (hn:n=l.length) (h:Rds w A (bv l)) :
 (convert 176 9 (.slice A n c)).run prog w=.ok (.string l) w:=by
 subst hn;rcases h with h|⟨b,off,rfl,hc⟩
 ·have hl:l=[]:=by simpa [bv] using h
  subst hl;simp only [List.length_nil];rcases A with _|a
  ·exact run_convert_bytes_nil w 176 5 underlying176 underlying5 0 c 9 underlying9
  ·rw [run_convert_bytes_string w 176 9 5 _ 0 c underlying176 underlying5 underlying9,
    run_bytesToString w a 0 c [] (by have:=run_loadCells_list (P:=prog) w a [] (λj v hj=>by simp at hj);simpa using this)]
   rfl
 ·have:=run_convert_bytes_arg (P:=prog) w 176 5 underlying176 underlying5 b off l.length c (l.map λx=>(x.toNat:Int)) aa
   (λi hi=>by rw [hc i _ (aKR hi)];simp [List.getD,List.getElem?_eq_getElem hi]) 9 underlying9
  rw [this];simp [strOfNums,Function.comp_def]
end Go.Proofs.YtkolcimllghnaaaGreatDoor

namespace Go.Proofs.YtkolcimllghnaaaGreatDoor.Lp
open Go.RowKit
variable{ok:Bool}{a b n x:Int}{c:UInt8}{l r s:ZS}
def inR (x:Int):Prop := -9223372036854775808≤x∧x≤9223372036854775807
instance (x:Int):Decidable (inR x):=by unfold inR;exact inferInstance
theorem aLN (a b:Int):(a==b)=decide (a=b):=by rw [Bool.eq_iff_iff];simp
def val (x:Int):Int:=if inR x then x else 0
def err (x:Int):Int:=if inR x then 0 else 9
def tv (ok:Bool) (n:Int):Int:=if ok then n else 0
def te (ok:Bool):Int:=if ok then 0 else 9
theorem aGJ (h:ok=decide (inR x)) (h2:inR x->n=x):tv ok n=val x:=by
 subst h;unfold tv val;by_cases h3:inR x<;>simp [h3];exact h2 h3
theorem aGK (h:ok=decide (inR x)):te ok=err x:=by
 subst h;unfold te err;by_cases h3:inR x<;>simp [h3]
theorem sA (h:inR x):wrap64 x=x:=IntWalk.wrap64_in x h
theorem Hu (x:Int):inR (wrap64 x):=by unfold inR wrap64;omega
theorem Te (x:Int):∃ k:Int,wrap64 x=x+18446744073709551616*k:=by
 refine ⟨-((x+9223372036854775808) / 18446744073709551616), ?_⟩;unfold wrap64;omega
theorem aGC (a b:Int) (ha:inR a) (hb:inR b):(a<wrap64 (a+b)↔0<b)↔inR (a+b):=by
 unfold inR wrap64 at *;omega
theorem aBC (a b:Int) (ha:inR a) (hb:inR b):(decide (a<wrap64 (a+b))==decide (0<b))=decide (inR (a+b)):=by
 rw [Bool.eq_iff_iff,beq_iff_eq,decide_eq_decide,decide_eq_true_iff];exact aGC a b ha hb
def mag (n:Int):Int:=if n<0 then -n else n
theorem Xp (h:inR n):mag n≤9223372036854775808:=by unfold mag inR at *;split<;>omega
theorem Tu (n b:Int) (hb:b≠0):∃ r:Int,n=n.tdiv b*b+r ∧ -(mag b)<r∧r<mag b:=by
 refine ⟨n.tmod b, ?_, ?_, ?_⟩
 ·have:=Int.mul_tdiv_add_tmod n b;rw [Int.mul_comm] at this;exact this.symm
 ·have h:=al;have h2:=Int.tmod_lt_of_pos (-n) (b:=mag b) ak;have e:n.tmod b=n.tmod (mag b):=by
   unfold mag
   split
   ·rw [Int.tmod_neg]
   ·rfl
  rw [Int.neg_tmod] at h2;rw [e];omega
 ·have h:=al;have e:n.tmod b=n.tmod (mag b):=by
   unfold mag
   split
   ·rw [Int.tmod_neg]
   ·rfl
  rw [e];exact h
theorem Tv (hn:inR n) (h:¬(n = -9223372036854775808∧b = -1)):inR (n.tdiv b):=by
 by_cases hb0:b=0
 ·subst hb0;simp [inR]
 ·have hm:(n.tdiv b).natAbs=n.natAbs / b.natAbs:=Int.natAbs_tdiv n b
  by_cases hb1:b.natAbs=1
  ·have:b=1∨b = -1:=ac
   rcases this with rfl|rfl
   ·simpa using hn
   ·have:n.tdiv (-1) = -n:=by rw [Int.tdiv_neg];simp
    rw [this];unfold inR at *;omega
  ·have:n.natAbs / b.natAbs≤n.natAbs / 2:=Nat.div_le_div_left ac ac;unfold inR at *;omega
theorem aDU (a b:Int) (ha:inR a) (hb:inR b) (hb0:b≠0) (h1:¬(a = -1∧b = -9223372036854775808)) (h2:¬(b = -1∧a = -9223372036854775808)) :
 wrap64 ((wrap64 (a*b)).tdiv b)=a↔inR (a*b):=by
 constructor
 ·intro h
  by_cases hx:wrap64 (a*b) = -9223372036854775808∧b = -1
  ·obtain ⟨hx1,rfl⟩:=hx;rw [hx1] at h;have:(-9223372036854775808:Int).tdiv (-1)=9223372036854775808:=am
   rw [this] at h;have:wrap64 9223372036854775808 = -9223372036854775808:=by unfold wrap64;decide
   rw [this] at h;exact absurd ⟨rfl,h.symm⟩ h2
  ·rw [sA (Tv (Hu _) hx)] at h;obtain ⟨r,hr,hr1,hr2⟩:=Tu (wrap64 (a*b)) b hb0;rw [h] at hr;obtain ⟨k,hk⟩:=Te (a*b);have hm:=Xp hb;have hw:=Hu (a*b);have:k=0:=ac
   rw [this] at hk;have e:wrap64 (a*b)=a*b:=ac
   rw [<-e];exact hw
 ·intro h;rw [sA h,Int.mul_tdiv_cancel _ hb0];exact sA ha
theorem Xi (h:a = -1∧b = -9223372036854775808):¬inR (a*b):=by obtain ⟨rfl,rfl⟩:=h;decide
theorem Xh (h:b = -1∧a = -9223372036854775808):¬inR (a*b):=by obtain ⟨rfl,rfl⟩:=h;decide
theorem Xj (a b:Int) (ha:inR a) (hb:inR b) (hb0:b≠0) :
 (wrap64 ((wrap64 (a*b)).tdiv b)==a && !(a == -1&&b == -9223372036854775808) && !(b == -1&&a == -9223372036854775808))=decide (inR (a*b)):=by
 by_cases h1:a = -1∧b = -9223372036854775808
 ·rw [decide_eq_false (Xi h1)];obtain ⟨rfl,rfl⟩:=h1;simp
 ·by_cases h2:b = -1∧a = -9223372036854775808
  ·rw [decide_eq_false (Xh h2)];obtain ⟨rfl,rfl⟩:=h2;simp
  ·have h:=aDU a b ha hb hb0 h1 h2;have e1:(a == -1&&b == -9223372036854775808)=false:=by rw [Bool.eq_false_iff];simpa using h1
   have e2:(b == -1&&a == -9223372036854775808)=false:=by rw [Bool.eq_false_iff];simpa using h2
   rw [e1,e2,Bool.eq_iff_iff,decide_eq_true_iff, <-h];simp
def signed (s:Int) (below:Bool):Int:=if below then -s else s
theorem aEA (h:n<0):mag n = -(n+1)+1:=by unfold mag;rw [if_pos h];omega
theorem aDZ (h:¬n<0):mag n=n:=if_neg h
theorem Cp (h:inR x):val x=x:=if_pos h
theorem vQ (h:¬inR x):val x=0:=if_neg h
theorem Dz (h:inR x):err x=0:=if_pos h
theorem wA (h:¬inR x):err x=9:=if_neg h
def low (x:Int):Int:=x % 18446744073709551616
theorem aEB (n:Int):mag n=(n.natAbs:Int):=ak
def aI (c:UInt8):Bool:=decide (48≤c.toNat)&&decide (c.toNat≤57)
def dvf (n:Int):ZS->Int
 | []=>n
 | c::l=>dvf (n*10+((c.toNat:Int)-48)) l
def mN (l:ZS):Bool:=l.all aI && !l.isEmpty
def kO (l:ZS):Int:=if mN l then val (dvf 0 l) else 0
def mP (l:ZS):Int:=if mN l then err (dvf 0 l) else 3
theorem yU (l k:ZS):∀ n,dvf n (l++k)=dvf (dvf n l) k:=by
 induction l with
 | nil=>intro n;rfl
 | cons c l ih=>intro n;exact ih _
theorem yT (n:Int) (l:ZS) (c:UInt8):dvf n (l++[c])=dvf n l*10+((c.toNat:Int)-48):=by
 rw [yU];rfl
theorem iA (h:aI c=true):48≤c.toNat∧c.toNat≤57:=by
 simpa [aI] using h
theorem Zn (h:l.all aI=true):∀ n,0≤n->n≤dvf n l:=by
 induction l with
 | nil=>intro n _;exact Int.le_refl _
 | cons c l ih =>
   intro n hn;simp only [List.all_cons,Bool.and_eq_true] at h;have hb:=iA h.1;have:=ih h.2 (n*10+((c.toNat:Int)-48)) ac;show n≤dvf (n*10+((c.toNat:Int)-48)) l;omega
theorem jZ (h:l.all aI=true):0≤dvf 0 l:=Zn h 0 (Int.le_refl _)
theorem Fx (s:ByteArray) (pos:Nat) (h:pos<s.size) (hd:aI (s[pos]'h)=true):Utf8.decode s pos=((s[pos]'h).toNat,1):=by
 have:=iA hd;exact decode_ascii s pos h ac
theorem Vm (s:ByteArray) (pos:Nat) (h:pos<s.size) (hd:aI (s[pos]'h)=false):(Utf8.decode s pos).1<48∨57<(Utf8.decode s pos).1:=by
 by_cases ha:(s[pos]'h).toNat<128
 ·rw [decode_ascii s pos h ha];simp only [aI,Bool.and_eq_false_iff,decide_eq_false_iff_not] at hd;omega
 ·have:=(decode_high s pos h ac).1;omega
theorem jK (s:ByteArray) (i:Nat) (h:i<s.size):s.data.toList[i]? = some (s[i]'h):=by
 rw [List.getElem?_eq_getElem an];rfl
theorem iV (s:ByteArray) (k:Nat) (h:k<s.size):s.data.toList.take (k+1)=s.data.toList.take k++[s[k]'h]:=by
 rw [List.take_add_one,jK s k h];rfl
theorem kM (s:ByteArray):s.data.toList.take s.size=s.data.toList:=List.take_of_length_le aa
theorem kC (s:ByteArray) (k:Nat) (h:k<s.size):s.data.toList.drop k=(s[k]'h)::s.data.toList.drop (k+1):=by
 rw [List.drop_eq_getElem_cons an];rfl
theorem Jf (s:ByteArray) (pos:Nat) (h:pos<s.size) (hd:aI (s[pos]'h)=false):mN s.data.toList=false:=by
 have hm:s[pos]'h∈s.data.toList:=List.mem_of_getElem? (jK s pos h);have:s.data.toList.all aI=false:=by
  rw [List.all_eq_false];exact ⟨_,hm,by simp [hd]⟩
 simp [mN,this]
theorem Bj (h:mN l=false):kO l=0:=by simp [kO,h]
theorem uD (h:mN l=false):mP l=3:=by simp [mP,h]
theorem nQ (h:mN l=true):kO l=val (dvf 0 l):=by simp [kO,h]
theorem nR (h:mN l=true):mP l=err (dvf 0 l):=by simp [mP,h]
theorem iD (s:ByteArray) (k:Nat) (h:k<s.size) (ha:(s.data.toList.take k).all aI=true) (hd:aI (s[k]'h)=true):(s.data.toList.take (k+1)).all aI=true:=by
 rw [iV s k h];simp [ha,hd]
theorem aAY (s:ByteArray) (k:Nat) (h:k<s.size) (ha:s.data.toList.all aI=true):aI (s[k]'h)=true :=
 List.all_eq_true.1 ha _ (List.mem_of_getElem? (jK s k h))
theorem Lc (s:ByteArray) (k:Nat) (ha:s.data.toList.all aI=true) (hn:¬inR (dvf 0 (s.data.toList.take k))):¬inR (dvf 0 s.data.toList):=by
 have h1:(s.data.toList.take k).all aI=true:=by
  rw [List.all_eq_true] at *;intro x hx;exact ha x (List.mem_of_mem_take hx)
 have h2:(s.data.toList.drop k).all aI=true:=by
  rw [List.all_eq_true] at *;intro x hx;exact ha x (List.mem_of_mem_drop hx)
 have h3:=jZ h1;have h4:=Zn h2 _ h3;rw [<-yU,List.take_append_drop] at h4;unfold inR at *;omega
def aR (l:ZS):Bool:=Lib.validD l && !l.contains 0
def cG (k i:Int) (s:ByteArray) (b:Bool):Bool :=
 if k=0 then i==0&&s.data.toList.isEmpty && !b
 else if k=1 then s.data.toList.isEmpty && !b
 else if k=2 then i==0 && !b&&decide (s.size≤60)&&aR s.data.toList
 else if k=3 then i==0&&s.data.toList.isEmpty
 else false
theorem aDP (l:ZS):aR (0::l)=false:=by simp [aR]
theorem Wz (b:UInt8) (l:ZS) (h0:b.toNat≠0) (h:b.toNat<128):aR (b::l)=aR l:=by
 have:b≠0:=by rintro rfl;exact h0 rfl
 simp [aR,Lib.validD_cons b l h,Ne.symm this]
def dS (n:Nat):Prop:=128≤n∧n<192
def eG (r least:Int):Prop:=¬(r<least)∧¬(1114111<r)∧¬(55296≤r∧r<57344)
theorem gN (h:128≤c.toNat):¬(0=c):=by rintro rfl;exact absurd h am
theorem Uo (b:UInt8) (l:ZS) (h:128≤b.toNat∧b.toNat<192∨248≤b.toNat):Lib.validD (b::l)=false:=by
 rw [Lib.validD_step _ aa,Lib.decodeL_N];simp only [List.length_cons,List.getD_cons_zero];rw [if_pos];have hb:=b.toNat_lt;unfold Lib.decodeN
 repeat' split
 all_goals first|exact ⟨rfl,rfl⟩|(exfalso;omega)
theorem aIG (b:UInt8) (l:ZS) (h:128≤b.toNat∧b.toNat<192∨248≤b.toNat):aR (b::l)=false:=by
 simp [aR,Uo b l h]
theorem aJY (b:UInt8) (l:ZS) (h1:192≤b.toNat) (h2:b.toNat<224) :
 (∃ c t,l=c::t∧dS c.toNat∧eG (((b.toNat:Int)-192)*64+((c.toNat:Int)-128)) 128∧aR (b::l)=aR t) ∨
 ((∀ c t,l=c::t->dS c.toNat->¬eG (((b.toNat:Int)-192)*64+((c.toNat:Int)-128)) 128)∧aR (b::l)=false):=by
 have hb:=b.toNat_lt;cases l with
 | nil =>
   right
   refine ⟨aa, ?_⟩;simp only [aR,Bool.and_eq_false_iff]
   left
   rw [Lib.validD_step _ aa,Lib.decodeL_N,if_pos];simp only [List.length_cons,List.length_nil,List.getD_cons_zero];unfold Lib.decodeN
   repeat' split
   all_goals first|exact ⟨rfl,rfl⟩|(exfalso;omega)
 | cons c t =>
   have hc:=c.toNat_lt
   by_cases hg:dS c.toNat∧eG (((b.toNat:Int)-192)*64+((c.toNat:Int)-128)) 128
   ·left
    refine ⟨c,t,rfl,hg.1,hg.2, ?_⟩;obtain ⟨⟨g1,g2⟩,g3,g4,g5⟩:=hg;have hd:Lib.decodeL (b::c::t)=(b.toNat % 32*64+c.toNat % 64,2):=by
     rw [Lib.decodeL_N];simp only [List.length_cons,List.getD_cons_zero,List.getD_cons_succ];unfold Lib.decodeN
     repeat' split
     all_goals first|rfl|(exfalso;omega)
    have hv:Lib.validD (b::c::t)=Lib.validD t:=by
     rw [Lib.validD_step _ aa,hd,if_neg aa];rfl
    simp [aR,hv,gN (show 128≤b.toNat by omega),gN g1]
   ·right
    refine ⟨?_, ?_⟩
    ·rintro c' t' e;cases e;intro h1 h2;exact hg ⟨h1,h2⟩
    simp only [aR,Bool.and_eq_false_iff]
    left
    rw [Lib.validD_step _ aa,Lib.decodeL_N,if_pos];simp only [List.length_cons,List.getD_cons_zero,List.getD_cons_succ];unfold Lib.decodeN;unfold dS eG at hg
    repeat' split
    all_goals first|exact ⟨rfl,rfl⟩|(exfalso;omega)
theorem aJX (b:UInt8) (l:ZS) (h1:224≤b.toNat) (h2:b.toNat<240) :
 (∃ c d t,l=c::d::t∧dS c.toNat∧dS d.toNat∧eG ((((b.toNat:Int)-224)*64+((c.toNat:Int)-128))*64+((d.toNat:Int)-128)) 2048∧aR (b::l)=aR t) ∨
 ((∀ c d t,l=c::d::t->dS c.toNat->dS d.toNat->¬eG ((((b.toNat:Int)-224)*64+((c.toNat:Int)-128))*64+((d.toNat:Int)-128)) 2048)∧aR (b::l)=false):=by
 have hb:=b.toNat_lt
 match l with
 | [] =>
   right
   refine ⟨aa, ?_⟩;simp only [aR,Bool.and_eq_false_iff]
   left
   rw [Lib.validD_step _ aa,Lib.decodeL_N,if_pos];simp only [List.length_cons,List.length_nil,List.getD_cons_zero];unfold Lib.decodeN
   repeat' split
   all_goals first|exact ⟨rfl,rfl⟩|(exfalso;omega)
 | [c] =>
   right
   refine ⟨aa, ?_⟩;simp only [aR,Bool.and_eq_false_iff]
   left
   rw [Lib.validD_step _ aa,Lib.decodeL_N,if_pos];simp only [List.length_cons,List.length_nil,List.getD_cons_zero];unfold Lib.decodeN
   repeat' split
   all_goals first|exact ⟨rfl,rfl⟩|(exfalso;omega)
 | c::d::t =>
   have hc:=c.toNat_lt;have hd':=d.toNat_lt
   by_cases hg:dS c.toNat∧dS d.toNat∧eG ((((b.toNat:Int)-224)*64+((c.toNat:Int)-128))*64+((d.toNat:Int)-128)) 2048
   ·left
    refine ⟨c,d,t,rfl,hg.1,hg.2.1,hg.2.2, ?_⟩;obtain ⟨⟨g1,g2⟩,⟨g6,g7⟩,g3,g4,g5⟩:=hg;have hd:Lib.decodeL (b::c::d::t)=(b.toNat % 16*4096+c.toNat % 64*64+d.toNat % 64,3):=by
     rw [Lib.decodeL_N];simp only [List.length_cons,List.getD_cons_zero,List.getD_cons_succ];unfold Lib.decodeN
     repeat' split
     all_goals first|rfl|(exfalso;omega)
    have hv:Lib.validD (b::c::d::t)=Lib.validD t:=by
     rw [Lib.validD_step _ aa,hd,if_neg aa];rfl
    simp [aR,hv,gN (show 128≤b.toNat by omega),gN g1,gN g6]
   ·right
    refine ⟨?_, ?_⟩
    ·rintro c' d' t' e;cases e;intro h1 h2 h3;exact hg ⟨h1,h2,h3⟩
    simp only [aR,Bool.and_eq_false_iff]
    left
    rw [Lib.validD_step _ aa,Lib.decodeL_N,if_pos];simp only [List.length_cons,List.getD_cons_zero,List.getD_cons_succ];unfold Lib.decodeN;unfold dS eG at hg
    repeat' split
    all_goals first|exact ⟨rfl,rfl⟩|(exfalso;omega)
theorem aJW (b:UInt8) (l:ZS) (h1:240≤b.toNat) (h2:b.toNat<248) :
 (∃ c d f t,l=c::d::f::t∧dS c.toNat∧dS d.toNat∧dS f.toNat∧eG (((((b.toNat:Int)-240)*64+((c.toNat:Int)-128))*64+((d.toNat:Int)-128))*64+((f.toNat:Int)-128)) 65536∧aR (b::l)=aR t) ∨
 ((∀ c d f t,l=c::d::f::t->dS c.toNat->dS d.toNat->dS f.toNat->¬eG (((((b.toNat:Int)-240)*64+((c.toNat:Int)-128))*64+((d.toNat:Int)-128))*64+((f.toNat:Int)-128)) 65536)∧aR (b::l)=false):=by
 have hb:=b.toNat_lt
 match l with
 | [] =>
   right
   refine ⟨aa, ?_⟩;simp only [aR,Bool.and_eq_false_iff]
   left
   rw [Lib.validD_step _ aa,Lib.decodeL_N,if_pos];simp only [List.length_cons,List.length_nil,List.getD_cons_zero];unfold Lib.decodeN
   repeat' split
   all_goals first|exact ⟨rfl,rfl⟩|(exfalso;omega)
 | [c] =>
   right
   refine ⟨aa, ?_⟩;simp only [aR,Bool.and_eq_false_iff]
   left
   rw [Lib.validD_step _ aa,Lib.decodeL_N,if_pos];simp only [List.length_cons,List.length_nil,List.getD_cons_zero];unfold Lib.decodeN
   repeat' split
   all_goals first|exact ⟨rfl,rfl⟩|(exfalso;omega)
 | [c,d] =>
   right
   refine ⟨aa, ?_⟩;simp only [aR,Bool.and_eq_false_iff]
   left
   rw [Lib.validD_step _ aa,Lib.decodeL_N,if_pos];simp only [List.length_cons,List.length_nil,List.getD_cons_zero];unfold Lib.decodeN
   repeat' split
   all_goals first|exact ⟨rfl,rfl⟩|(exfalso;omega)
 | c::d::f::t =>
   have hc:=c.toNat_lt;have hd':=d.toNat_lt;have hf':=f.toNat_lt
   by_cases hg:dS c.toNat∧dS d.toNat∧dS f.toNat∧eG (((((b.toNat:Int)-240)*64+((c.toNat:Int)-128))*64+((d.toNat:Int)-128))*64+((f.toNat:Int)-128)) 65536
   ·left
    refine ⟨c,d,f,t,rfl,hg.1,hg.2.1,hg.2.2.1,hg.2.2.2, ?_⟩;obtain ⟨⟨g1,g2⟩,⟨g6,g7⟩,⟨g8,g9⟩,g3,g4,g5⟩:=hg;have hd:Lib.decodeL (b::c::d::f::t)=(b.toNat % 8*262144+c.toNat % 64*4096+d.toNat % 64*64+f.toNat % 64,4):=by
     rw [Lib.decodeL_N];simp only [List.length_cons,List.getD_cons_zero,List.getD_cons_succ];unfold Lib.decodeN
     repeat' split
     all_goals first|rfl|(exfalso;omega)
    have hv:Lib.validD (b::c::d::f::t)=Lib.validD t:=by
     rw [Lib.validD_step _ aa,hd,if_neg aa];rfl
    simp [aR,hv,gN (show 128≤b.toNat by omega),gN g1,gN g6,gN g8]
   ·right
    refine ⟨?_, ?_⟩
    ·rintro c' d' f' t' e;cases e;intro h1 h2 h3 h4;exact hg ⟨h1,h2,h3,h4⟩
    simp only [aR,Bool.and_eq_false_iff]
    left
    rw [Lib.validD_step _ aa,Lib.decodeL_N,if_pos];simp only [List.length_cons,List.getD_cons_zero,List.getD_cons_succ];unfold Lib.decodeN;unfold dS eG at hg
    repeat' split
    all_goals first|exact ⟨rfl,rfl⟩|(exfalso;omega)
theorem fF (s:ByteArray) (k:Nat) (h:k<s.size):s.data.toList.drop k=(s[k]'h)::s.data.toList.drop (k+1):=by
 rw [List.drop_eq_getElem_cons an];rfl
theorem yC (s:ByteArray) (k:Nat):(s.data.toList.drop k).length=s.size-k:=aa
theorem aDR (s:ByteArray) (k:Nat) (h:s.size≤k):s.data.toList.drop k=[]:=List.drop_eq_nil_of_le an
theorem at2 (s:ByteArray) (k:Nat) (hk:k<s.size) (h1:192≤(s[k]'hk).toNat) (h2:(s[k]'hk).toNat<224) :
 (s.size≤k+1->aR (s.data.toList.drop k)=false) ∧
 (∀ g1:k+1<s.size,dS (s[k+1]'g1).toNat->eG ((((s[k]'hk).toNat:Int)-192)*64+(((s[k+1]'g1).toNat:Int)-128)) 128->aR (s.data.toList.drop k)=aR (s.data.toList.drop (k+2))) ∧
 (∀ g1:k+1<s.size,¬(dS (s[k+1]'g1).toNat∧eG ((((s[k]'hk).toNat:Int)-192)*64+(((s[k+1]'g1).toNat:Int)-128)) 128)->aR (s.data.toList.drop k)=false):=by
 have hs:=aJY _ (s.data.toList.drop (k+1)) h1 h2;rw [<-fF s k hk] at hs;refine ⟨λh => ?_,λg1 h3 h4 => ?_,λg1 h3 => ?_⟩
 ·rcases hs with ⟨c,t,e,_⟩|h'
  ·have:=congrArg List.length e;rw [yC,List.length_cons] at this;omega
  ·exact h'.2
 ·rw [fF s (k+1) g1] at hs;rcases hs with ⟨c,t,e,_,_,h⟩|h'
  ·cases e;exact h
  ·exact absurd h4 (h'.1 _ _ rfl h3)
 ·rw [fF s (k+1) g1] at hs;rcases hs with ⟨c,t,e,h5,h6,h⟩|h'
  ·cases e;exact absurd ⟨h5,h6⟩ h3
  ·exact h'.2
theorem at3 (s:ByteArray) (k:Nat) (hk:k<s.size) (h1:224≤(s[k]'hk).toNat) (h2:(s[k]'hk).toNat<240) :
 (s.size≤k+2->aR (s.data.toList.drop k)=false) ∧
 (∀ g1:k+2<s.size,dS (s[k+1]' ac).toNat->dS (s[k+2]'g1).toNat->eG (((((s[k]'hk).toNat:Int)-224)*64+(((s[k+1]' ac).toNat:Int)-128))*64+(((s[k+2]'g1).toNat:Int)-128)) 2048->aR (s.data.toList.drop k)=aR (s.data.toList.drop (k+3))) ∧
 (∀ g1:k+2<s.size,¬(dS (s[k+1]' ac).toNat∧dS (s[k+2]'g1).toNat∧eG (((((s[k]'hk).toNat:Int)-224)*64+(((s[k+1]' ac).toNat:Int)-128))*64+(((s[k+2]'g1).toNat:Int)-128)) 2048)->aR (s.data.toList.drop k)=false):=by
 have hs:=aJX _ (s.data.toList.drop (k+1)) h1 h2;rw [<-fF s k hk] at hs;refine ⟨λh => ?_,λg1 h3 h4 h5 => ?_,λg1 h3 => ?_⟩
 ·rcases hs with ⟨c,d,t,e,_⟩|h'
  ·have:=congrArg List.length e;rw [yC,List.length_cons,List.length_cons] at this;omega
  ·exact h'.2
 ·rw [fF s (k+1) ac,fF s (k+1+1) g1] at hs;rcases hs with ⟨c,d,t,e,_,_,_,h⟩|h'
  ·cases e;exact h
  ·exact absurd h5 (h'.1 _ _ _ rfl h3 h4)
 ·rw [fF s (k+1) ac,fF s (k+1+1) g1] at hs;rcases hs with ⟨c,d,t,e,h5,h6,h7,h⟩|h'
  ·cases e;exact absurd ⟨h5,h6,h7⟩ h3
  ·exact h'.2
theorem at4 (s:ByteArray) (k:Nat) (hk:k<s.size) (h1:240≤(s[k]'hk).toNat) (h2:(s[k]'hk).toNat<248) :
 (s.size≤k+3->aR (s.data.toList.drop k)=false) ∧
 (∀ g1:k+3<s.size,dS (s[k+1]' ac).toNat->dS (s[k+2]' ac).toNat->dS (s[k+3]'g1).toNat->eG ((((((s[k]'hk).toNat:Int)-240)*64+(((s[k+1]' ac).toNat:Int)-128))*64+(((s[k+2]' ac).toNat:Int)-128))*64+(((s[k+3]'g1).toNat:Int)-128)) 65536->aR (s.data.toList.drop k)=aR (s.data.toList.drop (k+4))) ∧
 (∀ g1:k+3<s.size,¬(dS (s[k+1]' ac).toNat∧dS (s[k+2]' ac).toNat∧dS (s[k+3]'g1).toNat∧eG ((((((s[k]'hk).toNat:Int)-240)*64+(((s[k+1]' ac).toNat:Int)-128))*64+(((s[k+2]' ac).toNat:Int)-128))*64+(((s[k+3]'g1).toNat:Int)-128)) 65536)->aR (s.data.toList.drop k)=false):=by
 have hs:=aJW _ (s.data.toList.drop (k+1)) h1 h2;rw [<-fF s k hk] at hs;refine ⟨λh => ?_,λg1 h3 h4 h5 h6 => ?_,λg1 h3 => ?_⟩
 ·rcases hs with ⟨c,d,f,t,e,_⟩|h'
  ·have:=congrArg List.length e;rw [yC,List.length_cons,List.length_cons,List.length_cons] at this;omega
  ·exact h'.2
 ·rw [fF s (k+1) ac,fF s (k+1+1) ac,fF s (k+1+1+1) g1] at hs;rcases hs with ⟨c,d,f,t,e,_,_,_,_,h⟩|h'
  ·cases e;exact h
  ·exact absurd h6 (h'.1 _ _ _ _ rfl h3 h4 h5)
 ·rw [fF s (k+1) ac,fF s (k+1+1) ac,fF s (k+1+1+1) g1] at hs;rcases hs with ⟨c,d,f,t,e,h5,h6,h7,h8,h⟩|h'
  ·cases e;exact absurd ⟨h5,h6,h7,h8⟩ h3
  ·exact h'.2
structure Tok where
 k:Int
 s:ZS
 n:Int
def Jq:Tok:=⟨0,[],0⟩
def Tok.cells (t:Tok):ZU:=[.int .u8 t.k,.string ⟨t.s.toArray⟩,.int .i64 t.n]
def tkv (l:List Tok):ZU:=l.flatMap Tok.cells
def gP (c:UInt8):Bool:=(decide (97≤c.toNat)&&decide (c.toNat≤122))||(decide (65≤c.toNat)&&decide (c.toNat≤90))||decide (c.toNat=95)
def cB (c:UInt8):Bool:=gP c||aI c
def eP (c:UInt8):Bool:=decide (c.toNat=32)||decide (c.toNat=9)||decide (c.toNat=10)||decide (c.toNat=13)
def jI (c:UInt8):UInt8:=if 65≤c.toNat∧c.toNat≤90 then c+32 else c
def Fs:ZS:=[40,41,44,59,42,43,45,47,37,61,60,62,46]
def pC (c:UInt8):Bool:=Fs.contains c
def wM (c d:UInt8):Bool:=(decide (c.toNat=60)&&(decide (d.toNat=61)||decide (d.toNat=62)))||(decide (c.toNat=62)&&decide (d.toNat=61))
def txt:ZS->Option (ZS×Nat)
 | []=>none
 | c::l =>
   if c=39 then
    match l with
    | d::r=>if d=39 then (txt r).map λp=>(39::p.1,p.2+2) else some ([],1)
    | []=>some ([],1)
   else (txt l).map λp=>(c::p.1,p.2+1)
def cK:ZS->Nat
 | []=>0
 | [c]=>if pC c then 1 else 0
 | c::d::_=>if wM c d then 2 else if pC c then 1 else 0
def lD:Option (ZS×Nat)->Tok×Nat×Int
 | none=>(Jq,0,4)
 | some (t,n)=>if aR t then (if t.length≤60 then (⟨3,t,0⟩,n+1,0) else (Jq,0,2)) else (Jq,0,4)
def bE:ZS->Tok×Nat×Int
 | []=>(Jq,0,4)
 | c::r =>
   if gP c then (⟨1,((c::r).takeWhile cB).map jI,0⟩,((c::r).takeWhile cB).length,0)
   else if aI c then (⟨2,[],kO ((c::r).takeWhile aI)⟩,((c::r).takeWhile aI).length,mP ((c::r).takeWhile aI))
   else if c=39 then lD (txt r)
   else if cK (c::r)=0 then (Jq,0,4) else (⟨4,(c::r).take (cK (c::r)),0⟩,cK (c::r),0)
def vE:Nat->List Tok->ZS->List Tok×Int
 | _,acc,[]=>(acc,0)
 | 0,acc,_::_=>(acc,0)
 | f+1,acc,c::r =>
   if eP c then vE f acc r
   else if (bE (c::r)).2.2=0 then vE f (acc++[(bE (c::r)).1]) ((c::r).drop (bE (c::r)).2.1)
   else ([],(bE (c::r)).2.2)
def spl (l:ZS):List Tok×Int:=vE l.length [] l
def eL (l:ZS):List Tok×Int:=if 2000<l.length then ([],2) else spl l
theorem gH (p:UInt8->Bool) (l:ZS):(l.takeWhile p).length≤l.length:=(List.takeWhile_sublist p).length_le
theorem wL:∀ (k:Nat) (l:ZS) (t:ZS) (n:Nat),l.length≤k->txt l=some (t,n)->1≤n∧n≤l.length∧t.length<n
 | 0,l,t,n,hk,h=>by
   obtain rfl:l=[]:=List.eq_nil_of_length_eq_zero ac;cases h
 | k+1,[],t,n,hk,h=>by cases h
 | k+1,c::l,t,n,hk,h=>by
   unfold txt at h
   by_cases hc:c=39
   ·rw [if_pos hc] at h
    match l,h,hk with
    | [],h,_ =>
      simp only [Option.some.injEq,Prod.mk.injEq] at h;obtain ⟨rfl,rfl⟩:=h;simp
    | d::r,h,hk =>
      simp only at h
      by_cases hd:d=39
      ·rw [if_pos hd] at h;obtain ⟨⟨t',n'⟩,h1,h2⟩:=aq;simp only [Prod.mk.injEq] at h2;obtain ⟨rfl,rfl⟩:=h2;have:=wL k r t' n' ao h1;simp;omega
      ·rw [if_neg hd] at h;simp only [Option.some.injEq,Prod.mk.injEq] at h;obtain ⟨rfl,rfl⟩:=h;simp
   ·rw [if_neg hc] at h;obtain ⟨⟨t',n'⟩,h1,h2⟩:=aq;simp only [Prod.mk.injEq] at h2;obtain ⟨rfl,rfl⟩:=h2;have:=wL k l t' n' ao h1;simp;omega
theorem Lm {c:Prop} [Decidable c] {a b n:Nat} (h1:a≤n) (h2:b≤n):(if c then a else b)≤n:=by by_cases h:c<;>simp [h,h1,h2]
theorem pD (l:ZS):cK l≤l.length:=by
 match l with
 | []=>exact ν _
 | [c]=>exact Lm aa aa
 | c::d::r=>exact Lm aa (Lm aa aa)
theorem aBU {p:Option (ZS×Nat)} (hp:txt r=p) (h:(lD p).2.2=0):1≤(lD p).2.1∧(lD p).2.1≤r.length+1:=by
 cases p with
 | none=>cases h
 | some p =>
   obtain ⟨t,n⟩:=p;have:=wL _ _ _ _ (ν _) hp;unfold lD at h |-
   by_cases g1:aR t=true
   ·by_cases g2:t.length≤60
    ·simp only [g1,g2,if_true];omega
    ·simp only [g1,g2,if_true,if_false] at h;cases h
   ·simp only [g1] at h;cases h
theorem gC (r:ZS) (h:gP c=true):bE (c::r)=(⟨1,((c::r).takeWhile cB).map jI,0⟩,((c::r).takeWhile cB).length,0):=by
 simp only [bE,h,if_true]
theorem iY (r:ZS) (h0:gP c=false) (h:aI c=true):bE (c::r)=(⟨2,[],kO ((c::r).takeWhile aI)⟩,((c::r).takeWhile aI).length,mP ((c::r).takeWhile aI)):=by
 simp only [bE,h0,h,φ,if_false,if_true]
theorem dE (r:ZS):bE (39::r)=lD (txt r):=rfl
theorem gD (r:ZS) (h0:gP c=false) (h1:aI c=false) (h2:c≠39):bE (c::r)=if cK (c::r)=0 then (Jq,0,4) else (⟨4,(c::r).take (cK (c::r)),0⟩,cK (c::r),0):=by
 simp only [bE,h0,h1,h2,φ,if_false]
theorem mV (h:(bE (c::r)).2.2=0):1≤(bE (c::r)).2.1∧(bE (c::r)).2.1≤r.length+1:=by
 cases h1:gP c
 ·cases h2:aI c
  ·by_cases h3:c=39
   ·subst h3;rw [dE] at h |-;exact aBU rfl h
   ·rw [gD r h1 h2 h3] at h |-
    by_cases g:cK (c::r)=0
    ·rw [if_pos g] at h;cases h
    ·rw [if_neg g];have:=pD (c::r);simp only [List.length_cons] at this;exact ⟨by show 1≤cK _;omega,this⟩
  ·rw [iY r h1 h2];have h3:=gH aI (c::r);simp only [List.takeWhile_cons,h2,if_true,List.length_cons] at h3 |-;omega
 ·rw [gC r h1];have h2:=gH cB (c::r);have h3:cB c=true:=by simp [cB,h1]
  simp only [List.takeWhile_cons,h3,if_true,List.length_cons] at h2 |-;omega
theorem tW:∀ (f g:Nat) (acc:List Tok) (l:ZS),l.length≤f->l.length≤g->vE f acc l=vE g acc l
 | f,g,acc,[],_,_=>by simp [vE]
 | 0,g,acc,c::r,h,_=>ar
 | f+1,0,acc,c::r,_,h=>ar
 | f+1,g+1,acc,c::r,h1,h2=>by
   simp only [List.length_cons] at h1 h2;unfold vE
   split
   ·exact tW f g acc r ac ac
   ·split
    ·rename_i hn
     have:=mV hn;exact tW f g _ _ au au
    ·rfl
def dN (acc:List Tok) (l:ZS):List Tok×Int:=vE l.length acc l
theorem kN (acc:List Tok):dN acc []=(acc,0):=by simp [dN,vE]
theorem eY (acc:List Tok) (r:ZS) (h:eP c=true):dN acc (c::r)=dN acc r:=by
 unfold dN;simp [vE,h]
theorem dM (acc:List Tok) (h:eP c=false) (h0:(bE (c::r)).2.2=0):dN acc (c::r)=dN (acc++[(bE (c::r)).1]) ((c::r).drop (bE (c::r)).2.1):=by
 unfold dN;rw [List.length_cons]
 conv=>lhs;unfold vE
 simp only [h,φ,if_false,h0,if_true];have:=mV h0;exact tW _ _ _ _ au (ν _)
theorem eB (acc:List Tok) (h:eP c=false) (h0:(bE (c::r)).2.2≠0):dN acc (c::r)=([],(bE (c::r)).2.2):=by
 unfold dN;rw [List.length_cons];unfold vE;simp [h,h0]
theorem lT (h:l.length≤2000):eL l=dN [] l:=by
 unfold eL spl dN;rw [if_neg ac]
theorem tU (h:2000<l.length):eL l=([],2):=by
 unfold eL;rw [if_pos h]
theorem pB:∀ (k:Nat) (acc:List Tok) (l:ZS),l.length≤k->(dN acc l).1.length≤acc.length+l.length
 | k,acc,[],_=>by rw [kN];simp
 | 0,acc,c::r,h=>ar
 | k+1,acc,c::r,h=>by
   simp only [List.length_cons] at h |-;cases hb:eP c
   ·by_cases h0:(bE (c::r)).2.2=0
    ·rw [dM acc hb h0];have h1:=mV h0;have:=pB k (acc++[(bE (c::r)).1]) ((c::r).drop (bE (c::r)).2.1) au;rw [List.length_drop,List.length_append,List.length_cons] at this;simp at this;omega
    ·rw [eB acc hb h0];simp
   ·rw [eY acc r hb];have:=pB k acc r ac;omega
theorem nL:∀ (k:Nat) (acc:List Tok) (l:ZS),l.length≤k->dN acc l=if (dN [] l).2=0 then (acc++(dN [] l).1,0) else ([],(dN [] l).2)
 | k,acc,[],_=>by rw [kN,kN];simp
 | 0,acc,c::r,h=>ar
 | k+1,acc,c::r,h=>by
   simp only [List.length_cons] at h;cases hb:eP c
   ·by_cases h0:(bE (c::r)).2.2=0
    ·have h1:=mV h0;have hl:=av
     rw [dM acc hb h0,dM [] hb h0,nL k _ _ hl];have:=nL k ([]++[(bE (c::r)).1]) _ hl;rw [this]
     split
     ·simp
     ·rename_i g;simp
    ·rw [eB acc hb h0,eB [] hb h0];simp [h0]
   ·rw [eY acc r hb,eY [] r hb];exact nL k acc r ac
inductive X where
 | lit (k i:Int) (s:ZS) (b:Bool):X
 | col (t s:ZS):X
 | un (op:ZS) (x:X):X
 | bin (op:ZS) (a b:X):X
 | isn (neg:Bool) (x:X):X
 | agg (op:ZS) (x:X):X
 | cnt:X
def X.size:X->Nat
 | .lit .. => 1
 | .col .. => 1
 | .un _ x=>x.size+1
 | .bin _ a b=>a.size+b.size+1
 | .isn _ x=>x.size+1
 | .agg _ x=>x.size+1
 | .cnt=>1
def wOr:ZS:=[111,114]
def Ox:ZS:=[97,110,100]
def oV:ZS:=[110,111,116]
def wIs:ZS:=[105,115]
def cE:ZS:=[110,117,108,108]
def dU:ZS:=[116,114,117,101]
def cX:ZS:=[102,97,108,115,101]
def bF:ZS:=[99,111,117,110,116]
def gG:ZS:=[115,117,109]
def jA:ZS:=[109,105,110]
def kL:ZS:=[109,97,120]
def uOr:ZS:=[79,82]
def lE:ZS:=[65,78,68]
def fG:ZS:=[78,79,84]
def aJ:ZS:=[67,79,85,78,84]
def dZ:ZS:=[83,85,77]
def fT:ZS:=[77,73,78]
def fX:ZS:=[77,65,88]
def isF (s:ZS):List Tok->Bool
 | []=>false
 | t::_=>t.s==s&&(t.k==4||t.k==1)
def Qf:List ZS:=[Ox,[97,115],[97,115,99],[98,101,103,105,110],[98,111,111,108],[98,121],[99,111,109,109,105,116],bF,[99,114,101,97,116,101],[100,101,108,101,116,101],[100,101,115,99],[100,114,111,112],cX,[102,114,111,109],[103,114,111,117,112],[105,110,100,101,120],[105,110,115,101,114,116],[105,110,116],[105,110,116,111],wIs,[106,111,105,110],[108,105,109,105,116],kL,jA,oV,cE,[111,110],wOr,[111,114,100,101,114],[114,111,108,108,98,97,99,107],[115,101,108,101,99,116],[115,101,116],gG,[116,97,98,108,101],[116,101,120,116],dU,[117,112,100,97,116,101],[118,97,108,117,101,115],[119,104,101,114,101]]
def zT (w:ZS):Bool:=Qf.contains w
def bB:List Tok->Option (ZS×List Tok)
 | []=>none
 | t::r=>if t.k=1∧zT t.s=false∧t.s.length≤20 then some (t.s,r) else none
def bM:Nat->List ZS
 | 1=>[wOr]
 | 2=>[Ox]
 | 4=>[[61],[60,62],[60],[60,61],[62],[62,61]]
 | 5=>[[43],[45]]
 | 6=>[[42],[47],[37]]
 | _=>[]
def cP (lev:Nat) (l:List Tok):Option ZS:=(bM lev).find? λs=>isF s l
def upW (s:ZS):ZS:=if s=wOr then uOr else if s=Ox then lE else if s=bF then aJ else if s=gG then dZ else if s=jA then fT else if s=kL then fX else s
def aD (s:ZS) (l:List Tok):Option (List Tok):=if isF s l then some l.tail else none
def mM (l:List Tok):Option (X×List Tok) :=
 match bB l with
 | none=>none
 | some (n,r)=>if isF [46] r then (match bB r.tail with|none=>none|some (m,r2)=>some (.col n m,r2)) else some (.col [] n,r)
def fP (l:List Tok):Option (Bool×List Tok):=if isF oV l then (aD cE l.tail).map λr=>(true,r) else (aD cE l).map λr=>(false,r)
mutual
def px:Nat->Nat->Nat->List Tok->Option (X×List Tok)
 | 0,_,_,_=>none
 | f+1,lev,d,l =>
   if lev=3 then (if isF oV l then (if d+1≤40 then (px f 3 (d+1) l.tail).map λp=>(.un fG p.1,p.2) else none) else px f 4 d l)
   else if lev=7 then (if isF [45] l then (if d+1≤40 then (px f 7 (d+1) l.tail).map λp=>(.un [45] p.1,p.2) else none) else px f 8 d l)
   else if lev=8 then pa f d l
   else (match px f (lev+1) d l with
   | none=>none
   | some (x,r)=>pl f lev d x false r)
def pl:Nat->Nat->Nat->X->Bool->List Tok->Option (X×List Tok)
 | 0,_,_,_,_,_=>none
 | f+1,lev,d,x,done,l =>
   match (if done then none else cP lev l) with
   | some s=>(match px f (lev+1) d l.tail with
     | none=>none
     | some (y,r)=>pl f lev d (.bin (upW s) x y) (lev==4) r)
   | none=>if lev=4∧isF wIs l=true then (match fP l.tail with
    | none=>none
    | some (n,r)=>pl f lev d (.isn n x) done r) else some (x,l)
def pa:Nat->Nat->List Tok->Option (X×List Tok)
 | 0,_,_=>none
 | _,_,[]=>none
 | f+1,d,t::r =>
   if t.k=2 then some (.lit 1 t.n [] false,r)
   else if t.k=3 then some (.lit 2 0 t.s false,r)
   else if isF cE (t::r) then some (.lit 0 0 [] false,r)
   else if isF dU (t::r) then some (.lit 3 0 [] true,r)
   else if isF cX (t::r) then some (.lit 3 0 [] false,r)
   else if isF [40] (t::r) then (if d+1≤40 then (match px f 1 (d+1) r with
    | none=>none
    | some (x,r2)=>(aD [41] r2).map λr3=>(x,r3)) else none)
   else if isF bF (t::r)||isF gG (t::r)||isF jA (t::r)||isF kL (t::r) then (if d+1≤40 then (match aD [40] r with
    | none=>none
    | some r2=>if t.s=bF∧isF [42] r2=true then (aD [41] r2.tail).map λr3=>(.cnt,r3) else (match px f 1 (d+1) r2 with
      | none=>none
      | some (x,r3)=>(aD [41] r3).map λr4=>(.agg (upW t.s) x,r4))) else none)
   else mM (t::r)
end
theorem pT {l:List Tok} (h:isF s l=true):∃ t r,l=t::r:=by
 cases l with
 | nil=>cases h
 | cons t r=>exact ⟨t,r,rfl⟩
theorem bD {l:List Tok} (h:isF s l=true):l.tail.length+1=l.length:=by
 obtain ⟨t,r,rfl⟩:=pT h;rfl
theorem dQ {l r:List Tok} (h:aD s l=some r):r.length+1=l.length:=by
 unfold aD at h
 split at h
 ·rename_i h1;injection h with h;subst h;exact bD h1
 ·cases h
theorem Bw {l r:List Tok} {n:ZS} (h:bB l=some (n,r)):r.length+1=l.length:=by
 cases l with
 | nil=>cases h
 | cons t r' =>
   simp only [bB] at h
   split at h
   ·simp only [Option.some.injEq,Prod.mk.injEq] at h;rw [<-h.2];rfl
   ·cases h
theorem Iu {l r:List Tok} {x:X} (h:mM l=some (x,r)):r.length<l.length:=by
 unfold mM at h
 split at h
 ·cases h
 ·rename_i n r1 h1
  have:=Bw h1
  split at h
  ·rename_i h2
   have:=bD h2
   split at h
   ·cases h
   ·rename_i m r2 h3
    have:=Bw h3;simp only [Option.some.injEq,Prod.mk.injEq] at h;rw [<-h.2];omega
  ·simp only [Option.some.injEq,Prod.mk.injEq] at h;rw [<-h.2];omega
theorem qS {l r:List Tok} {b:Bool} (h:fP l=some (b,r)):r.length<l.length:=by
 unfold fP at h
 split at h
 ·rename_i h1
  obtain ⟨r1,h2,h3⟩:=aq;have:=dQ h2;have:=bD h1;simp only [Prod.mk.injEq] at h3;rw [<-h3.2];omega
 ·obtain ⟨r1,h2,h3⟩:=aq;have:=dQ h2;simp only [Prod.mk.injEq] at h3;rw [<-h3.2];omega
theorem iH {lev:Nat} {l:List Tok} (h:cP lev l=some s):l.tail.length+1=l.length:=bD (s:=s) (by have:=List.find?_some h;simpa using this)
mutual
theorem jU:∀ (f lev d:Nat) (l r:List Tok) (x:X),px f lev d l=some (x,r)->r.length<l.length
 | 0,_,_,_,_,_,h=>aw
 | f+1,lev,d,l,r,x,h=>by
   unfold px at h
   split at h
   ·split at h
    ·rename_i h1
     split at h
     ·obtain ⟨⟨y,r1⟩,h2,h3⟩:=aq;have:=jU _ _ _ _ _ _ h2;have:=bD h1;simp only [Prod.mk.injEq] at h3;rw [<-h3.2];omega
     ·cases h
    ·exact jU _ _ _ _ _ _ h
   split at h
   ·split at h
    ·rename_i h1
     split at h
     ·obtain ⟨⟨y,r1⟩,h2,h3⟩:=aq;have:=jU _ _ _ _ _ _ h2;have:=bD h1;simp only [Prod.mk.injEq] at h3;rw [<-h3.2];omega
     ·cases h
    ·exact jU _ _ _ _ _ _ h
   split at h
   ·exact aHY _ _ _ _ _ h
   ·split at h
    ·cases h
    ·rename_i h1
     have:=jU _ _ _ _ _ _ h1;have:=La _ _ _ _ _ _ _ _ h;omega
theorem La:∀ (f lev d:Nat) (x:X) (done:Bool) (l r:List Tok) (y:X),pl f lev d x done l=some (y,r)->r.length≤l.length
 | 0,_,_,_,_,_,_,_,h=>ay
 | f+1,lev,d,x,done,l,r,y,h=>by
   unfold pl at h
   split at h
   ·rename_i s h1
    have h1':cP lev l=some s:=by
     split at h1
     ·cases h1
     ·exact h1
    have:=iH h1'
    split at h
    ·cases h
    ·rename_i h2
     have:=jU _ _ _ _ _ _ h2;have:=La _ _ _ _ _ _ _ _ h;omega
   ·split at h
    ·rename_i h1
     have:=bD h1.2
     split at h
     ·cases h
     ·rename_i h2
      have:=qS h2;have:=La _ _ _ _ _ _ _ _ h;omega
    ·simp only [Option.some.injEq,Prod.mk.injEq] at h;rw [<-h.2];omega
theorem aHY:∀ (f d:Nat) (l r:List Tok) (x:X),pa f d l=some (x,r)->r.length<l.length
 | 0,_,_,_,_,h=>az
 | f+1,d,[],_,_,h=>az
 | f+1,d,t::r0,r,x,h=>by
   unfold pa at h;have fin:∀ {z:X},some (z,r0)=some (x,r)->r.length<(t::r0).length:=by
    intro z e;simp only [Option.some.injEq,Prod.mk.injEq] at e;rw [<-e.2];simp
   split at h
   ·exact fin h
   split at h
   ·exact fin h
   split at h
   ·exact fin h
   split at h
   ·exact fin h
   split at h
   ·exact fin h
   split at h
   ·split at h
    ·split at h
     ·cases h
     ·rename_i h2
      have:=jU _ _ _ _ _ _ h2;obtain ⟨r3,h4,h5⟩:=aq;have:=dQ h4;simp only [Prod.mk.injEq] at h5;rw [<-h5.2];simp;omega
    ·cases h
   split at h
   ·split at h
    ·split at h
     ·cases h
     ·rename_i h2
      have:=dQ h2
      split at h
      ·rename_i h3
       have:=bD h3.2;obtain ⟨r3,h4,h5⟩:=aq;have:=dQ h4;simp only [Prod.mk.injEq] at h5;rw [<-h5.2];simp;omega
      ·split at h
       ·cases h
       ·rename_i h3
        have:=jU _ _ _ _ _ _ h3;obtain ⟨r3,h4,h5⟩:=aq;have:=dQ h4;simp only [Prod.mk.injEq] at h5;rw [<-h5.2];simp;omega
    ·cases h
   exact Iu h
end
end Go.Proofs.YtkolcimllghnaaaGreatDoor.Lp

namespace Go.Proofs.YtkolcimllghnaaaGreatDoor
open Lp
open Go.RowKit
variable{P d:Nat}{w w':World}{A:ZT}
structure But (P:Nat) (w w':World):Prop where
 os:w'.os=w.os
 tape:w'.tape=w.tape
 output:w'.output=w.output
 size:w≤w'.heap.size
 block:∀ k,k<w.heap.size->k≠P->w'.heap[k]? = w.heap[k]?
theorem But.refl (P:Nat) (w:World):But P w w:=⟨rfl,rfl,rfl,ν _,λ_ _ _=>rfl⟩
theorem But.trans {P:Nat} {a b c:World} (h:But P a b) (k:But P b c):But P a c :=
 ⟨k.os.trans h.os,k.tape.trans h.tape,k.output.trans h.output,Nat.le_trans h.size k.size,λi hi hn=>(k.block i (Nat.lt_of_lt_of_le hi h.size) hn).trans (h.block i hi hn)⟩
theorem But.of (h:Below w w w'):But P w w':=⟨h.os,h.tape,h.output,h.size,λk hk _=>h.block k hk⟩
theorem But.set (P o:Nat) (w:World) (v:Value):But P w (w.setCell ⟨P,o,none⟩ v) :=
 ⟨rfl,rfl,rfl,by simp [World.setCell],λk _ hn=>Below.heap_setCell w ⟨P,o,none⟩ v k hn⟩
theorem But.alloc (P:Nat) (w:World) (o:Obj):But P w (w.alloc o):=But.of ((θ).alloc (ν _) o)
theorem But.drew {P:Nat} {a w:World} (h:But P a w):But P a w.drew:=⟨h.os,h.tape,h.output,h.size,h.block⟩
theorem But.below {B:Nat} (h:But P w w') (hB:B≤P) (hP:P≤w):Below B w w' :=
 ⟨h.os,h.tape,h.output,h.size,λk hk=>h.block k ac ac⟩
theorem aL {g:Nat} {o:Obj} (h:But P w w') (hg:w.heap[g]? = some o) (hn:g≠P):w'.heap[g]? = some o:=(h.block g (aG hg) hn).trans hg
theorem qA {a:Addr} {u:Value} (h:But P w w') (hc:w.cell? a=some u) (hn:a.block≠P):w'.cell? a=some u :=
 (World.cell?_of_block (w:=w) (h.block a.block (World.block_lt_of_cell? w a hc) hn)).trans hc
def TkP (w:World) (P:Nat) (A:ZT) (l:List Tok):Prop :=
 l=[]∨∃ b off,A=some ⟨b,off,none⟩∧b<P∧∀ j u,(tkv l)[j]? = some u->w.cell? ⟨b,off+j,none⟩=some u
theorem TkP.but {l:List Tok} (h:TkP w P A l) (hb:But P w w'):TkP w' P A l:=by
 rcases h with rfl|⟨b,off,hA,hlt,hc⟩
 ·exact ab
 ·exact bf
theorem TkP.front {t:Tok} {r:List Tok} (h:TkP w P A (t::r)) :
 ∃ b off,A=some ⟨b,off,none⟩∧b<P∧w.cell? ⟨b,off,none⟩=some (.int .u8 t.k)∧w.cell? ⟨b,off+1,none⟩=some (.string t.s)∧w.cell? ⟨b,off+2,none⟩=some (.int .i64 t.n):=by
 rcases h with h|⟨b,off,hA,hlt,hc⟩
 ·cases h
 ·exact bh
theorem TkP.tail {c:Nat} {t:Tok} {r:List Tok} {b off:Nat} (h:TkP w P (some ⟨b,off,none⟩) (t::r)) (_:r.length+1≤c) :
 TkP w P (some ⟨b,off+3,none⟩) r:=by
 rcases h with h|⟨b',off',hA,hlt,hc⟩
 ·cases h
 ·simp only [Option.some.injEq,Addr.mk.injEq,and_true] at hA;obtain ⟨rfl,rfl⟩:=hA;exact .inr ⟨b,off+3,rfl,hlt,λj u hu=>by
   rw [Nat.add_assoc];exact hc (3+j) u bj⟩
def PS (w:World) (P:Nat) (l:List Tok) (d:Nat):Prop :=
 ∃ A c,w.heap[P]? = some (.cells #[.slice A l.length c,.int .i64 d] 100 (0,0))∧l.length≤c∧TkP w P A l
theorem PS.below {l:List Tok} (h:PS w P l d) (hb:Below w w w'):PS w' P l d:=by
 obtain ⟨A,c,h1,h2,h3⟩:=h;exact ⟨A,c,aA h1 hb,h2,h3.but (But.of hb)⟩
theorem PS.lt {l:List Tok} (h:PS w P l d):P<w:=by
 obtain ⟨A,c,h1,_⟩:=h;exact aG h1
def vA (t:Tok):Prop:=1≤t.k∧t.k≤4∧(t.k=1->∃ c r,t.s=c::r∧gP c=true)∧(t.k=4->∃ c r,t.s=c::r∧gP c=false)∧t.s.length≤2000
def Lsane (l:List Tok):Prop:=l.length≤2000∧∀ t∈l,vA t
theorem Lsane.tail {t:Tok} {r:List Tok} (h:Lsane (t::r)):Lsane r:=⟨by have:=h.1;simp at this;omega,λu hu=>h.2 u (List.mem_cons_of_mem _ hu)⟩
theorem Lsane.tl {l:List Tok} (h:Lsane l):Lsane l.tail:=by
 cases l with
 | nil=>exact h
 | cons t r=>exact h.tail
abbrev ZW:=List Tok
