import Derived.Test.YtjbfcacmdahnhaaGreatZtf
set_option linter.unusedVariables false
set_option linter.unusedSimpArgs false
set_option linter.unusedSectionVars false
set_option maxRecDepth 100000
set_option maxHeartbeats 8000000
namespace Go.Proofs.YtjbfcacmdahnhaaGreat
section
def zk3:ZK:=⟨[0,1,2,4,5,6,7,8,9,13,21,25,26,35,36,37,47,60,90,108],[],[]⟩
def zk4:ZK:=⟨[0,1,2,4,5,6,7,8,9,10,12,13,15,20,28,32,33,38,39,40,41,60,74,79,83],[],[]⟩
def zk7:ZK:=⟨[0,1,2,4,5,6,7,8,10,12,13,14,15,17,19,28,36,40,41,42,43,55,60,61,62,63,82,92,105,106,107,108,112,147],[⟨31,[27,30],[],[(27,[28,29])],[0,1,2,3,4,5,6,7,8,9,10,11,12,13,14,15,16,17,18,19,20,21,22,23,24,25,26,28,29,27,30,31]⟩],[]⟩
def zk8:ZK:=⟨[0,1,2,4,37],[],[]⟩
def zk9:ZK:=⟨[0,1,2,3,4,5],[],[]⟩
def zk10:ZK:=⟨[0,1,2,3,4,6],[],[]⟩
def zk11:ZK:=⟨[0,1,2,5,6,7,8,9],[],[]⟩
def zk12:ZK:=⟨[0,1,2,3,4,5],[],[]⟩
def zk13:ZK:=⟨[0,2,3,5],[⟨4,[4,9,15,27,32,37,42,47,52,57,62,67,69],[],[(4,[5,6,7,8,10,11,12,13,14,16,17,18,19,20,21,22,23,24,25,26,28,29,30,31,33,34,35,36,38,39,40,41,43,44,45,46,48,49,50,51,53,54,55,56,58,59,60,61,63,64,65,66]),(9,[10,11,12,13,14,16,17,18,19,20,21,22,23,24,25,26,28,29,30,31,33,34,35,36,38,39,40,41,43,44,45,46,48,49,50,51,53,54,55,56,58,59,60,61,63,64,65,66]),(15,[16,17,18,19,20,21,22,23,24,25,26,28,29,30,31,33,34,35,36,38,39,40,41,43,44,45,46,48,49,50,51,53,54,55,56,58,59,60,61,63,64,65,66]),(27,[16,17,18,19,20,21,28,29,30,31,33,34,35,36,38,39,40,41,43,44,45,46,48,49,50,51,53,54,55,56,58,59,60,61,63,64,65,66]),(32,[16,17,18,19,20,21,33,34,35,36,38,39,40,41,43,44,45,46,48,49,50,51,53,54,55,56,58,59,60,61,63,64,65,66]),(37,[16,17,18,19,20,21,38,39,40,41,43,44,45,46,48,49,50,51,53,54,55,56,58,59,60,61,63,64,65,66]),(42,[16,17,18,19,20,21,43,44,45,46,48,49,50,51,53,54,55,56,58,59,60,61,63,64,65,66]),(47,[16,17,18,19,20,21,48,49,50,51,53,54,55,56,58,59,60,61,63,64,65,66]),(52,[16,17,18,19,20,21,53,54,55,56,58,59,60,61,63,64,65,66]),(57,[16,17,18,19,20,21,58,59,60,61,63,64,65,66]),(62,[16,17,18,19,20,21,63,64,65,66]),(67,[16,17,18,19,20,21])],[0,1,2,3,5,6,7,8,10,11,12,13,14,16,17,18,19,20,21,22,23,24,25,26,28,29,30,31,33,34,35,36,38,39,40,41,43,44,45,46,48,49,50,51,53,54,55,56,58,59,60,61,63,64,65,66,4,9,15,27,32,37,42,47,52,57,62,67,68,69]⟩],[]⟩
def zk14:ZK:=⟨[0,1,4,5,30],[],[]⟩
def zk15:ZK:=⟨[0,1,4,16],[],[]⟩
def zk16:ZK:=⟨[0,1,4],[],[]⟩
def zk17:ZK:=⟨[0,1,2],[],[]⟩
def zk18:ZK:=⟨[0,1,2,3,4,6],[],[]⟩
def zk19:ZK:=⟨[0,1,4,5,7],[],[]⟩
def zk24:ZK:=⟨[0,1,2,3,6],[⟨3,[2,7,10,13,14,15,18,21,24,27,29],[],[(2,[4,5,6,8,9,11,12,16,17,19,20,22,23,25,26]),(7,[4,8,9,11,12,16,17,19,20,22,23,25,26,3]),(10,[4,11,12,16,17,19,20,22,23,25,26,3]),(13,[4,16,17,19,20,22,23,25,26,3]),(14,[4,16,17,19,20,22,23,25,26,3]),(15,[4,16,17,19,20,22,23,25,26,3]),(18,[4,19,20,22,23,25,26,3]),(21,[4,22,23,25,26,3]),(24,[4,25,26,3]),(27,[4,3])],[0,1,4,5,6,8,9,11,12,16,17,19,20,22,23,25,26,2,3,7,10,13,14,15,18,21,24,27,28,29,30,31]⟩],[]⟩
def zk26:ZK:=⟨[0,1,3,4,5,6,7,9,14,38,44],[⟨11,[7,12,13,14],[],[(7,[0,1,2,8,9,10,11]),(12,[0,1,2])],[0,1,2,3,4,5,6,8,9,10,11,7,12,13,14]⟩,⟨12,[9,14,15,16],[],[(9,[0,1,2,3,4,10,11,12,13]),(14,[0,1,2,3,4])],[0,1,2,3,4,5,6,7,8,10,11,12,13,9,14,15,16]⟩],[]⟩
def zk29:ZK:=⟨[0,2,4],[],[]⟩
def zk30:ZK:=⟨[0,1,2,4,5,7,8,10,12,13,14,16,17,18,19,20,35,36,37,38,42,43,44,53,62,83,85,86,87,94,113],[⟨13,[],[],[],[0,1,2,3,4,5,6,7]⟩,⟨24,[10],[],[(10,[2,3,5,6])],[0,1,2,3,4,5,6,7,8,9,10]⟩],[]⟩
def zk31:ZK:=⟨[0,1,2,4,5,6,22],[],[]⟩
def zk32:ZK:=⟨[0,1,4],[],[]⟩
def zk33:ZK:=⟨[0,1,2,3,5],[],[]⟩
def zk34:ZK:=⟨[0,1,2,3,5,11],[],[]⟩
def zk35:ZK:=⟨[0],[],[]⟩
def zk36:ZK:=⟨[0,2,3,4,6,7,8,9,10,11,12,21],[],[]⟩
def zk37:ZK:=⟨[0,2],[],[]⟩
def zk38:ZK:=⟨[0,1,2,4,5,6,7,8],[⟨2,[2,4,9],[8],[(2,[0,3]),(9,[7])],[0,1,3,2,4,5,6,7,8,9,10]⟩],[]⟩
def zk39:ZK:=⟨[0],[],[]⟩
def zk40:ZK:=⟨[0,1,2,4,5,7,8,10,11,13,23,30,31,32,33,52,74,75,76,77,89,90,92,94,113],[⟨8,[5],[],[],[0,1,2,3,4,5,6]⟩,⟨12,[6,7,10],[],[(6,[0,1,2,3,4]),(7,[0])],[0,1,2,3,4,5,6,7,8,9,10]⟩,⟨17,[6],[],[],[0,1,2,3,4,5,6]⟩,⟨23,[6],[],[],[0,1,2,3,4,5,6]⟩,⟨24,[5],[],[],[0,1,2,3,4,5,6]⟩,⟨28,[6],[],[],[0,1,2,3,4,5,6]⟩],[]⟩
def zk41:ZK:=⟨[0,2,4],[],[]⟩
def zk42:ZK:=⟨[0,2,4],[],[]⟩
def zk43:ZK:=⟨[0,2,4],[⟨3,[3,8],[],[(3,[4,5,6,7])],[0,1,2,4,5,6,7,3,8,9]⟩],[]⟩
def zk44:ZK:=⟨[0,2,4],[],[]⟩
def zk45:ZK:=⟨[0,2,4],[],[]⟩
def zk46:ZK:=⟨[0,2,3,4,5,8,9,10],[],[]⟩
def zk47:ZK:=⟨[0,1,4],[],[]⟩
def zk48:ZK:=⟨[0,2,3,4,5,8,9,10],[],[]⟩
def zk49:ZK:=⟨[0,2,3,4,5,8,9,10],[],[]⟩
def zk50:ZK:=⟨[0,2,4],[],[]⟩
def zk51:ZK:=⟨[0,2,4],[],[]⟩
def zk52:ZK:=⟨[0,2,4],[],[]⟩
def zk53:ZK:=⟨[0,2,4],[],[]⟩
def zk54:ZK:=⟨[0,1,4,5,7,8,9,16],[],[]⟩
def zk55:ZK:=⟨[0,1,4,5,6,7,12,19,29],[],[]⟩
def zk56:ZK:=⟨[0,2,4],[],[]⟩
def zk57:ZK:=⟨[0,1,2,4],[⟨1,[],[],[],[0,1,2,3,4,5,6,7,8,9,10,11,12,13]⟩],[]⟩
def zk58:ZK:=⟨[0,1,4,5,13],[],[]⟩
def zk66:ZK:=⟨[0,1,2],[],[]⟩
def zk67:ZK:=⟨[0,2,8],[],[]⟩
def zk68:ZK:=⟨[0,2,4],[],[]⟩
def zk69:ZK:=⟨[0,2],[],[]⟩
def zk70:ZK:=⟨[0,2,8],[],[]⟩
def zk71:ZK:=⟨[0],[],[]⟩
def zk72:ZK:=⟨[0],[],[]⟩
def zk73:ZK:=⟨[0,2,3,4,10,13,14],[⟨7,[3,8],[],[(3,[0,1,4,5,6])],[0,1,2,4,5,6,3,7,8]⟩],[]⟩
def zk74:ZK:=⟨[0,2,8],[],[]⟩
def zk75:ZK:=⟨[0,2,8],[],[]⟩
def zk76:ZK:=⟨[0,2,8],[],[]⟩
def zk78:ZK:=⟨[0,1,2,3,4,8],[],[]⟩
def zk79:ZK:=⟨[0,1,3,4,5,6,7,8,13],[⟨5,[5,10,11,13],[12],[(5,[0,6,7,8,9]),(10,[0])],[0,1,2,3,4,6,7,8,9,5,10,11,12,13]⟩],[]⟩
def zk80:ZK:=⟨[0,1,3,4,5,6,8,28,42,58],[⟨1,[],[],[],[0,1,2,3,4,5,6,7,8,9,10,11,12,13,14,15,16,17,18]⟩,⟨3,[5],[],[(5,[6,7,8,9,10])],[0,1,2,3,4,6,7,8,9,10,5,11,12]⟩,⟨7,[6],[],[],[0,1,2,3,4,5,6,7]⟩,⟨10,[8],[],[],[0,1,2,3,4,5,6,7,8,9,10,11,12,13]⟩],[]⟩
def zk81:ZK:=⟨[0,1,3,4],[],[]⟩
def zk82:ZK:=⟨[0,1,3,4],[],[]⟩
def zk83:ZK:=⟨[0,1,3,4,5,6,7,8,9,22,44,57,60,78,79,88],[⟨1,[7,12],[11],[(12,[10])],[0,1,2,3,4,5,6,7,8,9,10,11,12,13]⟩,⟨4,[5,10,16],[15],[(5,[0,6,7,8,9]),(16,[13,14])],[0,1,2,3,4,6,7,8,9,5,10,11,12,13,14,15,16,17,18]⟩,⟨11,[7],[],[],[0,1,2,3,4,5,6,7]⟩,⟨15,[6],[],[],[0,1,2,3,4,5,6]⟩,⟨17,[8],[],[],[0,1,2,3,4,5,6,7,8]⟩],[]⟩
def zk84:ZK:=⟨[0,1,3,4,5,22,36],[⟨1,[5,14],[],[(5,[6,7,8,9,10,11,12,13])],[0,1,2,3,4,6,7,8,9,10,11,12,13,5,14,15]⟩,⟨4,[9,10],[],[(9,[0,1,2,3])],[0,1,2,3,4,5,6,7,8,9,10,11]⟩],[]⟩
def zk85:ZK:=⟨[0,1,3,4,5,6,21,31],[⟨2,[5,7],[],[(5,[6])],[0,1,2,3,4,6,5,7,8]⟩,⟨5,[5,6],[],[(5,[0,1,2,3])],[0,1,2,3,4,5,6,7]⟩],[]⟩
def zk86:ZK:=⟨[0,2],[],[]⟩
def zk87:ZK:=⟨[0,1,2,3,4,5,10],[],[]⟩
def zk94:ZK:=⟨[0,1,4,5,7,8,9,16],[],[]⟩
def zk95:ZK:=⟨[0,1,3],[⟨1,[11],[],[],[0,1,2,3,4,5,6,7,8,9,10,11,12,13]⟩],[]⟩
def zk96:ZK:=⟨[0,1,3,4,12,15],[⟨4,[],[],[],[0,1,2,3,4,5,6,7]⟩],[]⟩
def zk98:ZK:=⟨[0,1,2,4,5,6,7,12,17,22,29,42,54,68,79,84,90,95,107,112,117,122,127,146,151],[],[]⟩
def zk99:ZK:=⟨[0,1,2,3,6],[],[]⟩
def zk100:ZK:=⟨[0,1,4,5,6,7,8,10,26,37],[],[]⟩
def zk101:ZK:=⟨[0,1,2,3,6,7,8,10,14,15,16,17,26],[],[]⟩
def zk102:ZK:=⟨[0,2,3,4,6],[],[]⟩
def zk103:ZK:=⟨[1,2,4,5],[],[]⟩
def zk104:ZK:=⟨[0,1,4,11],[],[]⟩
def zk105:ZK:=⟨[0,1,2,4,6,29],[⟨2,[6,7,10],[],[(6,[0,1,2,3,4]),(7,[0])],[0,1,2,3,4,5,6,7,8,9,10]⟩,⟨5,[8,12],[],[(8,[1,3,4])],[0,1,2,3,4,5,6,7,8,9,10,11,12]⟩],[]⟩
def zk106:ZK:=⟨[0,1,2,3,7,8,15],[⟨4,[11,15,19],[],[(11,[1,2,4,5,6,7]),(15,[2,6,7])],[0,1,2,3,4,5,6,7,8,9,10,11,12,13,14,15,16,17,18,19]⟩],[]⟩
def zk107:ZK:=⟨[0,2],[],[]⟩
def zk108:ZK:=⟨[0,1,4,10],[],[]⟩
def zk110:ZK:=⟨[0,2,4],[],[]⟩
def zk111:ZK:=⟨[0,1,4,5,6,14],[⟨4,[],[],[],[0,1,2,3,4,5,6,7,8,9,10,11,12,13,14,15,16,17,18,19]⟩],[]⟩
def zk112:ZK:=⟨[0,1,4,6],[],[]⟩
def zk113:ZK:=⟨[0,2,4],[],[]⟩
def zk114:ZK:=⟨[0,1,4,5,6,14],[⟨4,[18],[],[],[0,1,2,3,4,5,6,7,8,9,10,11,12,13,14,15,16,17,18,19]⟩],[]⟩
def zk115:ZK:=⟨[0,2,4],[],[]⟩
def zk116:ZK:=⟨[0,1,4,5,6,14],[⟨4,[18],[],[],[0,1,2,3,4,5,6,7,8,9,10,11,12,13,14,15,16,17,18,19]⟩],[]⟩
def zk117:ZK:=⟨[0,2],[⟨1,[],[],[],[0,1,2,3,4,5,6,7,8,9,10,11,12,13,14,15,16,17]⟩],[]⟩
def zk118:ZK:=⟨[0,1,4,5,7,8,9,16],[],[]⟩
def zk119:ZK:=⟨[0,2,4],[],[]⟩
def zk121:ZK:=⟨[0,1,2,3,4,5,6,7,14],[],[]⟩
def zk122:ZK:=⟨[0,2,4],[⟨4,[3],[],[(3,[4,5,6,7])],[0,1,2,4,5,6,7,3,8,9,10]⟩],[]⟩
def zk123:ZK:=⟨[0,2,3,5,6,7,9,10,20,21,22,23,70,71,72,73],[⟨9,[5,16],[],[(5,[6,7,8,9,10,11,12,13,14,15])],[0,1,2,3,4,6,7,8,9,10,11,12,13,14,15,5,16,17]⟩,⟨11,[9,10],[],[(9,[0,1,2,3,4,12]),(10,[12])],[0,1,2,3,4,5,6,7,8,12,9,10,11]⟩,⟨16,[5,15,20],[],[(5,[6,7,8,9,10,11,12,13,14,16,17,18,19]),(15,[16,17,18,19])],[0,1,2,3,4,6,7,8,9,10,11,12,13,14,16,17,18,19,5,15,20,21,22,23,24,25]⟩],[]⟩
def zk124:ZK:=⟨[0,2,3,4,5,6,7,8,9,10,11,13,14,15,18,50,51,52,53,88,89,90,91,122,123,124,125],[⟨1,[5,15,20],[],[(5,[6,7,8,9,10,11,12,13,14,16,17,18,19]),(15,[16,17,18,19])],[0,1,2,3,4,6,7,8,9,10,11,12,13,14,16,17,18,19,5,15,20,21,22,23,24,25,26,27]⟩,⟨9,[20],[],[],[0,1,2,3,4,5,6,7,8,9,10,11,12,13,14,15,16,17,18,19,20,21,22,23,24,25]⟩,⟨13,[8,9,15],[14],[(8,[0,1,2,3]),(15,[12,13])],[0,1,2,3,4,5,6,7,8,9,10,11,12,13,14,15,16,17]⟩,⟨14,[6],[],[],[0,1,2,3,4,5,6]⟩,⟨20,[6],[],[],[0,1,2,3,4,5,6]⟩],[]⟩
def zk125:ZK:=⟨[0,2,4],[⟨3,[],[],[],[0,1,2,3,4,5,6,7,8,9]⟩],[]⟩
def zk126:ZK:=⟨[0,1,4,5,6,8,19,33],[⟨3,[8],[],[(8,[0,1,2,3,4])],[0,1,2,3,4,5,6,7,8,9,10]⟩],[]⟩
def zk127:ZK:=⟨[0,1,3,4,5,7,9,19,32],[⟨3,[],[],[],[0,1,2,3,4,5,6,7,8,9]⟩,⟨5,[6,7],[],[],[0,1,2,3,4,5,6,7,8,9,10,11,12]⟩,⟨9,[6,7,10],[],[(6,[0,1,2,3,4]),(7,[0])],[0,1,2,3,4,5,6,7,8,9,10]⟩],[]⟩
def zk128:ZK:=⟨[0,1,4,5,7,15,16,17,18],[⟨6,[21],[],[],[0,1,2,3,4,5,6,7,8,9,10,11,12,13,14,15,16,17,18,19,20,21]⟩],[]⟩
def zk129:ZK:=⟨[0,1,4],[],[]⟩
def zk130:ZK:=⟨[0,1,2,6,7,8,9,10,11,12,13,14,26,39,48,86],[⟨4,[5,6,11],[10],[(5,[0]),(11,[9])],[0,1,2,3,4,5,6,7,8,9,10,11,12]⟩,⟨9,[4,10,11],[],[(4,[5,6,7,8,9])],[0,1,2,3,5,6,7,8,9,4,10,11,12,13,14,15,16]⟩,⟨10,[4,12],[],[(4,[5,6,7,8,9,10,11])],[0,1,2,3,5,6,7,8,9,10,11,4,12,13,14,15,16,17]⟩,⟨14,[6],[],[],[0,1,2,3,4,5,6]⟩],[]⟩
def zk131:ZK:=⟨[0,1,2,3,4,5,6,7,8,9,10,11,12,13],[⟨4,[2,6,8,9,14],[13],[(2,[0,1,3,4,5,7]),(6,[0,1,7]),(8,[0]),(14,[12])],[0,1,3,4,5,7,2,6,8,9,10,11,12,13,14,15]⟩,⟨5,[3],[],[(3,[1,2])],[0,1,2,3,4,5]⟩],[]⟩
def zk132:ZK:=⟨[0,1,4],[],[]⟩
def zk133:ZK:=⟨[0,1,2,3,5],[],[]⟩
def zk134:ZK:=⟨[0,1,4,6],[⟨3,[9,10],[],[(9,[0,1,2,3,4,5,6,7])],[0,1,2,3,4,5,6,7,8,9,10,11]⟩],[]⟩
def zk135:ZK:=⟨[0,1,2,6,7,9,13,16],[],[]⟩
def zk136:ZK:=⟨[0,1,2,6,7,11],[],[]⟩
def zk137:ZK:=⟨[0,1,2,3,7,8,10,13,14,15,24,28],[⟨9,[9],[],[],[0,1,2,3,4,5,6,7,8,9,10]⟩],[]⟩
def zk138:ZK:=⟨[0,1,4,5,7,15,16,17,18],[⟨6,[21],[],[],[0,1,2,3,4,5,6,7,8,9,10,11,12,13,14,15,16,17,18,19,20,21]⟩],[]⟩
def zk139:ZK:=⟨[0,1,3,4,5,16,22],[],[]⟩
def zk140:ZK:=⟨[0,1,4,5,7,15,16,17,18],[⟨6,[21],[],[],[0,1,2,3,4,5,6,7,8,9,10,11,12,13,14,15,16,17,18,19,20,21]⟩],[]⟩
def zk160:ZK:=⟨[0,1,2,6],[],[]⟩
def zk161:ZK:=⟨[0,1,2,3,4,5,14],[],[]⟩
def zk162:ZK:=⟨[0,1,2,3,4,5,6,8,9,17,22,23,24,25,32],[],[]⟩
def zk164:ZK:=⟨[0,1,3,4,5,7,9,10],[],[]⟩
def zk165:ZK:=⟨[0,1,2,3,4,11],[],[]⟩
def zk166:ZK:=⟨[0,1,2],[],[]⟩
def zk167:ZK:=⟨[0,1,4,14],[],[]⟩
def zk168:ZK:=⟨[0],[],[]⟩
def zk169:ZK:=⟨[0],[],[]⟩
def zk170:ZK:=⟨[0,1,2,3,6,7,8,9,10,30],[],[]⟩
def zk171:ZK:=⟨[0,1,5,6,13,14,15,16,32],[⟨5,[7],[],[],[0,1,2,3,4,5,6,7]⟩],[]⟩
def zk172:ZK:=⟨[0,1,2,6,8],[],[]⟩
def zk173:ZK:=⟨[0,1,2,6,7,9,10,28,29,30,31],[⟨1,[14,15],[],[(14,[0,1,2,3,4,5,6,7,8,9])],[0,1,2,3,4,5,6,7,8,9,10,11,12,13,14,15,16]⟩,⟨5,[7,12],[11],[(12,[10])],[0,1,2,3,4,5,6,7,8,9,10,11,12,13]⟩,⟨6,[7,11],[],[(11,[10])],[0,1,2,3,4,5,6,7,8,9,10,11]⟩,⟨7,[7],[],[],[0,1,2,3,4,5,6,7]⟩,⟨8,[8],[],[],[0,1,2,3,4,5,6,7,8]⟩,⟨9,[7,8,11],[],[(7,[0,1,2,3,4]),(8,[0])],[0,1,2,3,4,5,6,7,8,9,10,11]⟩],[]⟩
def zk174:ZK:=⟨[0,1,2,6,7,8,12,19,20,21],[],[]⟩
def zk175:ZK:=⟨[0,1,2,3,5,8,9,10,11],[],[]⟩
def zk176:ZK:=⟨[0,1,2,5,6,7,8,9,11,12,21,22,23,24,35],[⟨8,[17,23,25],[],[(17,[0,1,2,3,4,5]),(23,[3,4,5,20,21]),(25,[21])],[0,1,2,3,4,5,6,7,8,9,10,11,12,13,14,15,16,17,18,19,20,21,22,23,24,25]⟩],[]⟩
def zk177:ZK:=⟨[0,1,4,5,15,16,17],[],[]⟩
def zk178:ZK:=⟨[0,1,5,6,7,8,10,11,12,14,15,16,17,37],[⟨8,[6],[],[],[0,1,2,3,4,5,6]⟩],[]⟩
def zk179:ZK:=⟨[0,1,2,5,6,7,8,9,10,11,12,14,25,26,27,28],[⟨10,[2],[],[(2,[0,3])],[0,1,3,2,4,5,6]⟩],[]⟩
def zk180:ZK:=⟨[0,1,4,5,15,16,17],[],[]⟩
def zk181:ZK:=⟨[0,1,2,3,8,9,10,11,12,13,14,26,34,40,46],[],[]⟩
def zk182:ZK:=⟨[0,1,2,3,4,5,6,7,8,9,20],[⟨2,[1,3,4,9],[8],[(1,[0,2]),(3,[0]),(9,[7])],[0,2,1,3,4,5,6,7,8,9,10]⟩,⟨5,[3],[],[(3,[1,2])],[0,1,2,3,4,5]⟩],[]⟩
def zk183:ZK:=⟨[0,1,4,6],[⟨3,[9,10],[],[(9,[0,1,2,3,4,5,6,7])],[0,1,2,3,4,5,6,7,8,9,10,11]⟩],[]⟩
def zk184:ZK:=⟨[0,2],[⟨1,[],[],[],[0,1,2,3,4,5,6,7,8,9,10,11,12,13,14,15,16,17]⟩],[]⟩
def zk185:ZK:=⟨[0,2,3,4,5,11],[],[]⟩
def zk186:ZK:=⟨[0,1,2,4,6,7,11,24],[⟨7,[9],[],[],[0,1,2,3,4,5,6,7,8,9]⟩],[]⟩
def zk187:ZK:=⟨[0,2,3,13],[⟨0,[],[],[],[0,1,2,3,4,5,6,7,8,9]⟩,⟨1,[12],[],[],[0,1,2,3,4,5,6,7,8,9,10,11,12,13]⟩,⟨2,[10],[],[],[0,1,2,3,4,5,6,7,8,9,10,11]⟩,⟨3,[12],[],[],[0,1,2,3,4,5,6,7,8,9,10,11,12]⟩],[]⟩
def zk188:ZK:=⟨[0,1,2,3,4,5,6],[⟨2,[2,3,4,7],[],[(2,[0,1]),(3,[0])],[0,1,2,3,4,5,6,7,8]⟩],[]⟩
def zk189:ZK:=⟨[0,1,4,5,6,8,9,10,11,12],[],[]⟩
def zk190:ZK:=⟨[0,1,4,5,6,10,13],[],[]⟩
def zk191:ZK:=⟨[0,1,2,3,7,8,9],[⟨1,[4,8,9,10],[],[(4,[5,6,7]),(8,[5,6])],[0,1,2,3,5,6,7,4,8,9,10,11,12,13,14]⟩],[]⟩
def zk192:ZK:=⟨[0,1,3,7,12],[],[]⟩
def zk193:ZK:=⟨[0,1,2,4],[⟨1,[8,12],[],[(12,[11])],[0,1,2,3,4,5,6,7,8,9,10,11,12]⟩,⟨2,[8],[],[],[0,1,2,3,4,5,6,7,8]⟩],[]⟩
def zk194:ZK:=⟨[0,1,2,6,7,10],[],[]⟩
def zk195:ZK:=⟨[0,1,2,4,5,7,8,9,10,11,12,18],[],[]⟩
def zk196:ZK:=⟨[0,1,2],[],[]⟩
def zk197:ZK:=⟨[0,1,2,3,4],[],[]⟩
def zk198:ZK:=⟨[0,1,2,5,6,7,8,10,18,29,32],[⟨6,[],[],[],[0,1,2,3,4,5,6,7,8,9,10]⟩,⟨12,[7],[],[],[0,1,2,3,4,5,6,7]⟩],[]⟩
def zk199:ZK:=⟨[0,1,2,6,7,8,21],[],[]⟩
def zk200:ZK:=⟨[0,1,4],[],[]⟩
def zk201:ZK:=⟨[0,1,4],[⟨1,[],[],[],[0,1,2,3,4,5,6,7,8,9,10,11,12]⟩],[]⟩
def zk202:ZK:=⟨[0,1,2,3,4,5,6,8,9,10,11,12,21],[],[]⟩
def zk203:ZK:=⟨[0,2,4],[⟨3,[],[],[],[0,1,2,3,4,5,6,7,8,9]⟩],[]⟩
def zk204:ZK:=⟨[0,2,3,13],[⟨0,[],[],[],[0,1,2,3,4,5,6,7,8,9]⟩,⟨1,[12],[],[],[0,1,2,3,4,5,6,7,8,9,10,11,12,13]⟩,⟨2,[10],[],[],[0,1,2,3,4,5,6,7,8,9,10,11]⟩,⟨3,[12],[],[],[0,1,2,3,4,5,6,7,8,9,10,11,12]⟩],[]⟩
def zk205:ZK:=⟨[0,2,4],[⟨3,[],[],[],[0,1,2,3,4,5,6,7,8,9]⟩],[]⟩
def zk206:ZK:=⟨[0,2,3,13],[⟨0,[],[],[],[0,1,2,3,4,5,6,7,8,9]⟩,⟨1,[12],[],[],[0,1,2,3,4,5,6,7,8,9,10,11,12,13]⟩,⟨2,[10],[],[],[0,1,2,3,4,5,6,7,8,9,10,11]⟩,⟨3,[12],[],[],[0,1,2,3,4,5,6,7,8,9,10,11,12]⟩],[]⟩
def zk236:ZK:=⟨[0,1,4,5,6,7,8,9,10,11,14,22,31,37,59,60,61,62],[⟨15,[5,6],[],[(5,[0,1])],[0,1,2,3,4,5,6]⟩,⟨17,[3,5],[],[(3,[0,1]),(5,[1,4])],[0,1,2,3,4,5,6,7]⟩],[]⟩
def zk237:ZK:=⟨[0,2,3,4,5],[],[]⟩
def zk240:ZK:=⟨[0,1,3,4,5,6,10,25],[],[]⟩
def zk241:ZK:=⟨[0,1,2],[],[]⟩
def zk242:ZK:=⟨[0,1,2,6],[],[]⟩
def zk243:ZK:=⟨[0,1,2],[],[]⟩
def zk244:ZK:=⟨[0,1,2],[],[]⟩
def zk245:ZK:=⟨[0,1,2],[],[]⟩
def zk246:ZK:=⟨[0,1,2],[],[]⟩
def zk247:ZK:=⟨[0,1,2,6],[],[]⟩
def zk248:ZK:=⟨[0,1,2],[],[]⟩
def zk249:ZK:=⟨[0,1,2],[],[]⟩
def zk250:ZK:=⟨[0,1,2],[],[]⟩
def zk251:ZK:=⟨[0,1,2],[],[]⟩
def zk252:ZK:=⟨[0,1,2],[],[]⟩
def zk253:ZK:=⟨[0,1,2],[],[]⟩
def zk254:ZK:=⟨[0,1,2],[],[]⟩
def zk255:ZK:=⟨[0,1,2],[],[]⟩
def zk256:ZK:=⟨[0,1,2],[],[]⟩
def zk257:ZK:=⟨[0,1,2],[],[]⟩
def zk258:ZK:=⟨[0,1,2],[],[]⟩
def zk259:ZK:=⟨[0,1,2],[],[]⟩
def zk260:ZK:=⟨[0,1,2],[],[]⟩
def zk261:ZK:=⟨[0,1,2],[],[]⟩
def zk262:ZK:=⟨[0,1,2],[],[]⟩
def zk264:ZK:=⟨[0,1,3,4,5,6,10],[⟨6,[9],[],[],[0,1,2,3,4,5,6,7,8,9]⟩],[]⟩
def zk265:ZK:=⟨[0,1,2,3,4,10,11,12,13,14,15,21,40,58],[],[]⟩
def zk266:ZK:=⟨[0,1,2,3,4,5,6,7,8],[⟨2,[5,6,7,10],[],[(5,[0,1]),(6,[0])],[0,1,2,3,4,5,6,7,8,9,10,11]⟩],[]⟩
def zk267:ZK:=⟨[0,1,2,3,4,5,6,7,8],[],[]⟩
def zk268:ZK:=⟨[0,2,3,4,5,6,12],[⟨4,[10],[],[],[0,1,2,3,4,5,6,7,8,9,10]⟩,⟨5,[14],[],[],[0,1,2,3,4,5,6,7,8,9,10,11,12,13,14]⟩],[]⟩
def zk269:ZK:=⟨[0,1,2,3,4,5,6,7,8,9,15],[⟨7,[2,3],[],[(2,[1])],[0,1,2,3,4]⟩],[]⟩
def zk270:ZK:=⟨[0,2,3,4,5,6,12],[⟨4,[10],[],[],[0,1,2,3,4,5,6,7,8,9,10]⟩,⟨5,[14],[],[],[0,1,2,3,4,5,6,7,8,9,10,11,12,13,14]⟩],[]⟩
def zk271:ZK:=⟨[0,1,2,3,4,5,6,16],[⟨2,[8,13],[12],[(13,[11])],[0,1,2,3,4,5,6,7,8,9,10,11,12,13,14]⟩],[]⟩
def zk272:ZK:=⟨[0,1,2,3,5,6,7,8],[],[]⟩
def zk273:ZK:=⟨[0,2],[],[]⟩
def zk274:ZK:=⟨[0,2,3,4,5,6,12],[⟨4,[10],[],[],[0,1,2,3,4,5,6,7,8,9,10]⟩,⟨5,[14],[],[],[0,1,2,3,4,5,6,7,8,9,10,11,12,13,14]⟩],[]⟩
def zk275:ZK:=⟨[0,1,2,3,4],[],[]⟩
def zk276:ZK:=⟨[0,1,3,9],[⟨1,[],[],[],[0,1,2,3,4,5]⟩],[]⟩
def zk277:ZK:=⟨[0,2,3,4,6,7,8,9,10,17],[],[]⟩
def zk278:ZK:=⟨[0,2],[],[]⟩
def zk279:ZK:=⟨[0,1,3,5,12],[],[]⟩
def zk280:ZK:=⟨[0,1,4,5,6,8,12,13,14,15,25],[],[]⟩
def zk281:ZK:=⟨[0,1,4,12],[],[]⟩
def zk282:ZK:=⟨[0,1,2,3,4,5,6,7,8],[],[]⟩
def zk283:ZK:=⟨[0,1,2],[⟨1,[1],[],[(1,[3,4])],[0,3,4,1,2,5,6]⟩],[]⟩
def zk285:ZK:=⟨[0,1,3,4,5,16],[⟨1,[5],[],[],[0,1,2,3,4,5,6,7,8,9,10]⟩],[]⟩
def zk286:ZK:=⟨[0,1,2,4,5,6,15],[],[]⟩
def zk287:ZK:=⟨[0,2,5],[],[]⟩
def zk288:ZK:=⟨[0],[],[]⟩
def zk307:ZK:=⟨[0,2,3,4,5,7,14,15,16,17,18],[],[]⟩
def zk308:ZK:=⟨[0,1,2],[],[]⟩
def zk309:ZK:=⟨[0],[],[]⟩
def zk310:ZK:=⟨[0],[],[]⟩
def zk311:ZK:=⟨[0],[],[]⟩
def zk313:ZK:=⟨[0,1,4,5,6,7,12,19,29],[],[]⟩
def zk314:ZK:=⟨[0,1,2,3,4,8],[],[]⟩
def zk315:ZK:=⟨[0,1,4,6],[⟨3,[10,17],[],[(10,[0,1,2,3,4,5,6])],[0,1,2,3,4,5,6,7,8,9,10,11,12,13,14,15,16,17]⟩],[]⟩
def zk316:ZK:=⟨[0,1,4,6,8,19],[],[]⟩
def zk317:ZK:=⟨[0,2,3,4,5,6,7],[],[]⟩
def zk318:ZK:=⟨[0,2,3,4,5,6,7],[],[]⟩
def zk319:ZK:=⟨[0,2,3,5],[],[]⟩
def zk320:ZK:=⟨[0,1,3,15],[],[]⟩
def zk321:ZK:=⟨[0,1,2,3,4,6,7,8,35],[],[]⟩
def zk322:ZK:=⟨[0,1,2,3,4],[],[]⟩
def zk323:ZK:=⟨[0,1,2,3,4,5,13],[],[]⟩
def zk324:ZK:=⟨[0,1,4,5,6,7,12,19,29],[],[]⟩
def zk325:ZK:=⟨[0,1,2],[],[]⟩
def zk326:ZK:=⟨[0,1,2,3],[⟨1,[],[],[],[0,1,2,3,4,5,6]⟩,⟨2,[7],[],[],[0,1,2,3,4,5,6,7]⟩],[]⟩
def zk327:ZK:=⟨[0,1,2,3,4,6,7,8,9,18],[⟨4,[2,4,5],[],[(2,[0,3]),(4,[0])],[0,1,3,2,4,5,6,7,8,9]⟩],[]⟩
def zk328:ZK:=⟨[0,1,2,5,6,7,8,9,10,21,30],[],[]⟩
def zk329:ZK:=⟨[0,1,2,3],[⟨1,[1,3],[],[(1,[2])],[0,2,1,3,4,5]⟩],[]⟩
def zk332:ZK:=⟨[0,2,3,4,7,15],[],[]⟩
def zk333:ZK:=⟨[0,1,2,3,4,6],[],[]⟩
def zk334:ZK:=⟨[0,1,2,3,4,6],[],[]⟩
def zk335:ZK:=⟨[0,1,2,3,4,5,6,7,8],[],[]⟩
def zk340:ZK:=⟨[0,1,3,4,6,9,10,11,12],[],[]⟩
def zk341:ZK:=⟨[0,1,2],[],[]⟩
def zk342:ZK:=⟨[0,1],[],[]⟩
def zk343:ZK:=⟨[0,1,2],[],[]⟩
def zk344:ZK:=⟨[0,1],[],[]⟩
def zk345:ZK:=⟨[0,1,2],[],[]⟩
def zk346:ZK:=⟨[0,1],[],[]⟩
def zk347:ZK:=⟨[0,1,4,5,7,8,9,16],[],[]⟩
def zk348:ZK:=⟨[0,2],[],[]⟩
def zk349:ZK:=⟨[0,1,4,5,8],[],[]⟩
def zk350:ZK:=⟨[0,2,3,4,5,6,12],[],[]⟩
def zk351:ZK:=⟨[0,1,2,3,4,7,8,9,31],[],[]⟩
def zk352:ZK:=⟨[0,1,4,5,6,7,19],[],[]⟩
def zk353:ZK:=⟨[0,1,2],[],[]⟩
def zk354:ZK:=⟨[0,1,2],[],[]⟩
def zk357:ZK:=⟨[0,1,4,5,6,9],[],[]⟩
end
section
open Go.RowKit
structure ZW (n:Nat) (l:List (Nat × Value)) (L:List Asn) (p:Act→World→Prop):Prop where
 h:∀ a w,Fr a n l→Mem w L→p a w
def ZA (K:ZK) (q p:Prop):Prop:=q→p
def YK (K:ZK) (p:Prop):Prop:=p
section
variable {ops:Array Oper} {Q:Exit→Act→World→Prop} {X:Act→World→Prop} {rest:List Oper} {o:Oper} {a:Act} {w:World} {n:Nat} {l l':List (Nat × Value)} {L L':List Asn} {K:ZK} {p q:Prop}
theorem zI (K:ZK) {p:Act→World→Prop} (F:Fr a n l) (M:Mem w L) (h:YK K (ZW n l L p)):p a w:=ZW.h h a w F M
theorem zO {p:Act→World→Prop} (h:∀ a w,Fr a n l→Mem w L→p a w):YK K (ZW n l L p):=ZW.mk h
theorem za0:ZA K q q:=id
theorem zaK:ZA K (YK K p) p:=id
theorem zaN (hf:filtO K.s l=some l') (h:ZA K q (ZW n l' L (Q .normal))):ZA K q (ZW n l L (wpList Tryz.prog ops Q [])):=fun hq=>⟨fun a w F M=>(h hq).h a w (F.filt K.s hf) M⟩
theorem zaM (h:ZA K q (ZW n l L (Q .normal))):ZA K q (ZW n l L (wpList Tryz.prog ops Q [])):=fun hq=>⟨(h hq).h⟩
theorem za1 (s:ZOn ops o n l L l' L') (h:ZA K q (ZW n l' L' (wpList Tryz.prog ops Q rest))):ZA K q (ZW n l L (wpList Tryz.prog ops Q (o::rest))):=fun hq=>⟨fun a w F M=>s Q rest a w F M (h hq).h⟩
theorem zaP {r s:List Oper} (h:ZA K q (ZW n l L (wpList Tryz.prog ops Q (o::List.append r s)))):ZA K q (ZW n l L (wpList Tryz.prog ops Q (List.append (o::r) s))):=h
theorem zaP0 {s:List Oper} (h:ZA K q (ZW n l L (wpList Tryz.prog ops Q s))):ZA K q (ZW n l L (wpList Tryz.prog ops Q (List.append [] s))):=h
def ZOb (ops:Array Oper) (o:Oper) (n:Nat) (l:List (Nat × Value)) (L:List Asn) (fl:Nat→List (Nat × Value)) (fL:Nat→List Asn):Prop:=∀ (Q:Exit→Act→World→Prop) (rest:List Oper) (a:Act) (w:World),Fr a n l→Mem w L→(∀ b a w,Fr a n (fl b)→Mem w (fL b)→wpList Tryz.prog ops Q rest a w)→wpList Tryz.prog ops Q (o::rest) a w
theorem zob {d:Nat} {fv:Nat→Value} {fL:Nat→List Asn} (hw:Wanted o ops l=some true:=by exact rfl) (hd:o.dst=some d:=by exact rfl) (hn:Nat.ble (d+1) n=true:=by exact rfl) (s:∀ C:Value→List Asn→Prop,(∀ b,C (fv b) (fL b))→AC o l L n C:=by(intro C h;exact acA h)):ZOb ops o n l L (fun b=>(d,fv b)::l) fL:=fun _ _ _ _ F M h=>sv_act F M hw hd hn (s _ h)
theorem zaB {fl:Nat→List (Nat × Value)} {fL:Nat→List Asn} {q:Nat→Prop} (s:ZOb ops o n l L fl fL) (h:∀ b,ZA K (q b) (ZW n (fl b) (fL b) (wpList Tryz.prog ops Q rest))):ZA K (∀ b,q b) (ZW n l L (wpList Tryz.prog ops Q (o::rest))):=fun hq=>⟨fun a w F M=>s Q rest a w F M fun b=>(h b (hq b)).h⟩
theorem zcR {id:Nat} {os:List Oper} (h:ZA K q (ZW n l L (wpList Tryz.prog os.toArray Q os))):ZA K q (ZW n l L ((Code.region id os.toArray false).wp Tryz.prog Q)):=fun hq=>⟨fun a w F M=>sx_region ((h hq).h a w F M)⟩
theorem zcQ {x y:Code} (h:ZA K q (ZW n l L (x.wp Tryz.prog (Exit.then (y.wp Tryz.prog Q) Q)))):ZA K q (ZW n l L ((Code.seq x y).wp Tryz.prog Q)):=fun hq=>⟨fun a w F M=>wp_seq ((h hq).h a w F M)⟩
theorem zcB {id:Nat} {x:Code} (h:ZA K q (ZW n l L (x.wp Tryz.prog (Exit.inBlock id Q)))):ZA K q (ZW n l L ((Code.block id x).wp Tryz.prog Q)):=fun hq=>⟨fun a w F M=>wp_block ((h hq).h a w F M)⟩
theorem zcS {x:Code} (h:ZA K q (ZW n l L (x.wp Tryz.prog (Exit.noGoto Q)))):ZA K q (ZW n l L ((Code.scope x).wp Tryz.prog Q)):=fun hq=>⟨fun a w F M=>wp_scope_straight ((h hq).h a w F M)⟩
theorem zcL {i:Nat} (h:ZA K q (ZW n l L (Q .normal))):ZA K q (ZW n l L ((Code.label i).wp Tryz.prog Q)):=fun hq=>⟨fun a w F M=>wp_label ((h hq).h a w F M)⟩
theorem zcK (h:ZA K q (ZW n l L (Q .normal))):ZA K q (ZW n l L (Code.skip.wp Tryz.prog Q)):=fun hq=>⟨fun a w F M=>wp_skip ((h hq).h a w F M)⟩
theorem zcE {i:Nat} (h:ZA K q (ZW n l L (Q (.exit i)))):ZA K q (ZW n l L ((Code.exit i).wp Tryz.prog Q)):=fun hq=>⟨fun a w F M=>wp_exit ((h hq).h a w F M)⟩
theorem zcX (h:ZA K q (ZW n l L (Q .ret))):ZA K q (ZW n l L (Code.ret.wp Tryz.prog Q)):=fun hq=>⟨fun a w F M=>wp_ret ((h hq).h a w F M)⟩
theorem zcT {c:Operand} {x y:Code} (hc:evl l c=some (.bool true)) (h:ZA K q (ZW n l L (x.wp Tryz.prog Q))):ZA K q (ZW n l L ((Code.cond c x y).wp Tryz.prog Q)):=fun hq=>⟨fun a w F M=>sx_cond_t F hc ((h hq).h a w F M)⟩
theorem zcF {c:Operand} {x y:Code} (hc:evl l c=some (.bool false)) (h:ZA K q (ZW n l L (y.wp Tryz.prog Q))):ZA K q (ZW n l L ((Code.cond c x y).wp Tryz.prog Q)):=fun hq=>⟨fun a w F M=>sx_cond_f F hc ((h hq).h a w F M)⟩
theorem zeN (h:ZA K q (ZW n l L X)):ZA K q (ZW n l L (Exit.then X Q .normal)):=h
theorem zeR (h:ZA K q (ZW n l L (Q .ret))):ZA K q (ZW n l L (Exit.then X Q .ret)):=h
theorem zeX {i:Nat} (h:ZA K q (ZW n l L (Q (.exit i)))):ZA K q (ZW n l L (Exit.then X Q (.exit i))):=h
theorem zbN {j:Nat} (h:ZA K q (ZW n l L (Q .normal))):ZA K q (ZW n l L (Exit.inBlock j Q .normal)):=h
theorem zbR {j:Nat} (h:ZA K q (ZW n l L (Q .ret))):ZA K q (ZW n l L (Exit.inBlock j Q .ret)):=h
theorem zbX {i j:Nat} (he:Nat.beq i j=true) (h:ZA K q (ZW n l L (Q .normal))):ZA K q (ZW n l L (Exit.inBlock j Q (.exit i))):=fun hq=>⟨fun a w F M=>by
 have e:i=j:=Nat.eq_of_beq_eq_true he
 simp only[Exit.inBlock,e,if_true]
 exact(h hq).h a w F M⟩
theorem zbY {i j:Nat} (he:Nat.beq i j=false) (h:ZA K q (ZW n l L (Q (.exit i)))):ZA K q (ZW n l L (Exit.inBlock j Q (.exit i))):=fun hq=>⟨fun a w F M=>by
 have e:i≠j:=fun e=>by rw[e,Nat.beq_refl] at he;cases he
 simp only[Exit.inBlock,e,if_false]
 exact(h hq).h a w F M⟩
theorem zgN (h:ZA K q (ZW n l L (Q .normal))):ZA K q (ZW n l L (Exit.noGoto Q .normal)):=h
theorem zgR (h:ZA K q (ZW n l L (Q .ret))):ZA K q (ZW n l L (Exit.noGoto Q .ret)):=h
theorem zgX {i:Nat} (h:ZA K q (ZW n l L (Q (.exit i)))):ZA K q (ZW n l L (Exit.noGoto Q (.exit i))):=h
section
variable {E Fl:List Nat} {S:List (Nat × List Nat)} {σ done:List Nat} {i:Nat}
theorem zpA (s:ZPo ops n E Fl S i done l L l' L') (h:ZA K q (PW Tryz.prog ops n Q E Fl S σ (i::done) l' L')):ZA K q (PW Tryz.prog ops n Q E Fl S (i::σ) done l L):=fun hq=>s Q σ (h hq)
theorem zpB {fl:Nat→List (Nat × Value)} {fL:Nat→List Asn} {q:Nat→Prop} (s:ZPb ops n E Fl S i done l L fl fL) (h:∀ b,ZA K (q b) (PW Tryz.prog ops n Q E Fl S σ (i::done) (fl b) (fL b))):ZA K (∀ b,q b) (PW Tryz.prog ops n Q E Fl S (i::σ) done l L):=fun hq=>s Q σ fun b=>h b (hq b)
theorem zpN (hf:filtO K.s l=some l') (h:ZA K q (ZW n l' L (Q .normal))):ZA K q (PW Tryz.prog ops n Q E Fl S [] done l L):=fun hq=>pv_nil fun a w F M=>(h hq).h a w (F.filt K.s hf) M
theorem zpM (h:ZA K q (ZW n l L (Q .normal))):ZA K q (PW Tryz.prog ops n Q E Fl S [] done l L):=fun hq=>pv_nil (h hq).h
theorem zpV {js:List Nat} (hr:Rvs Tryz.prog ops n js l L) (h:ZA K q p):ZA K q (Rvs Tryz.prog ops n js l L∧p):=fun hq=>⟨hr,h hq⟩
end
section
variable {E Fl js:List Nat} {r:Tr} {i:Nat}
def ZTo (ops:Array Oper) (n:Nat) (E Fl:List Nat) (i:Nat) (js:List Nat) (l:List (Nat × Value)) (L:List Asn) (l':List (Nat × Value)) (L':List Asn):Prop:=∀ (Q:Exit→Act→World→Prop) (r:Tr),PV Tryz.prog ops n Q E Fl r l' L'→PV Tryz.prog ops n Q E Fl (.cons i js r) l L
theorem zt1 (s:ZTo ops n E Fl i js l L l' L') (h:ZA K q (PV Tryz.prog ops n Q E Fl r l' L')):ZA K q (PV Tryz.prog ops n Q E Fl (.cons i js r) l L):=fun hq=>s Q r (h hq)
theorem ztN (hf:filtO K.s l=some l') (h:ZA K q (ZW n l' L (Q .normal))):ZA K q (PV Tryz.prog ops n Q E Fl .nil l L):=fun hq=>tv_nil fun a w F M=>(h hq).h a w (F.filt K.s hf) M
theorem ztM (h:ZA K q (ZW n l L (Q .normal))):ZA K q (PV Tryz.prog ops n Q E Fl .nil l L):=fun hq=>tv_nil (h hq).h
theorem zts1 {d:Nat} {v:Value} (hi:ops[i]? = some o:=by exact rfl) (hf:Fl.contains i=false:=by exact rfl) (he:E.contains i=false:=by exact rfl) (hw:Wanted o ops l=some true:=by exact rfl) (hd:o.dst=some d:=by exact rfl) (hr:RT o l L n v:=by exact rtA):ZTo ops n E Fl i js l L ((d,v)::l) L:=fun _ _ h=>tv1 h hi hf he hw hd hr
theorem zts3 {v:Value} (hi:ops[i]? = some o:=by exact rfl) (hf:Fl.contains i=false:=by exact rfl) (he:E.contains i=true:=by exact rfl) (hw:Wanted o ops l=some true:=by exact rfl) (hd:o.dst=none:=by exact rfl) (s:∀ C:Value→List Asn→Prop,C v L'→AC o l L n C:=by(intro C h;exact acB h)) (hr:Rvs Tryz.prog ops n js l L':=by exact rvsA):ZTo ops n E Fl i js l L l L':=fun _ _ h=>tv3 h hi hf he hw hd s hr
theorem ztsK {d:Nat} (hi:ops[i]? = some o:=by exact rfl) (hf:Fl.contains i=false:=by exact rfl) (hw:Wanted o ops l=some false:=by exact rfl) (hd:o.dst=some d:=by exact rfl):ZTo ops n E Fl i js l L ((d,undef)::l) L:=fun _ _ h=>tvK h hi hf hw hd
theorem ztsK0 (hi:ops[i]? = some o:=by exact rfl) (hf:Fl.contains i=false:=by exact rfl) (he:E.contains i=true:=by exact rfl) (hw:Wanted o ops l=some false:=by exact rfl) (hd:o.dst=none:=by exact rfl):ZTo ops n E Fl i js l L l L:=fun _ _ h=>tvK0 h hi hf he hw hd
def ZTb (ops:Array Oper) (n:Nat) (E Fl:List Nat) (i:Nat) (js:List Nat) (l:List (Nat × Value)) (L:List Asn) (fl:Nat→List (Nat × Value)) (fL:Nat→List Asn):Prop:=∀ (Q:Exit→Act→World→Prop) (r:Tr),(∀ b,PV Tryz.prog ops n Q E Fl r (fl b) (fL b))→PV Tryz.prog ops n Q E Fl (.cons i js r) l L
theorem ztb2 {d:Nat} {fv:Nat→Value} {fL:Nat→List Asn} (hi:ops[i]? = some o:=by exact rfl) (hf:Fl.contains i=false:=by exact rfl) (he:E.contains i=true:=by exact rfl) (hw:Wanted o ops l=some true:=by exact rfl) (hd:o.dst=some d:=by exact rfl) (s:∀ C:Value→List Asn→Prop,(∀ b,C (fv b) (fL b))→AC o l L n C:=by(intro C h;exact acA h)) (hr:∀ b,Rvs Tryz.prog ops n js ((d,fv b)::l) (fL b):=by(intro b;exact rvsA)):ZTb ops n E Fl i js l L (fun b=>(d,fv b)::l) fL:=fun _ _ h=>tv2 h hi hf he hw hd s hr
theorem ztbF {t:TypeId} {cs:List Value} {d:Nat} (hi:ops[i]? = some o:=by exact rfl) (hf:Fl.contains i=true:=by exact rfl) (ho:o.op=.alloc t:=by exact rfl) (hz:ZT t cs:=by exact inferInstance) (hd:o.dst=some d:=by exact rfl):ZTb ops n E Fl i js l L (fun b=>(d,.pointer (some ⟨b,0,none⟩))::l) (fun b=>pt b cs t::L):=fun _ _ h=>tvF h hi hf ho hz hd
theorem ztB {fl:Nat→List (Nat × Value)} {fL:Nat→List Asn} {q:Nat→Prop} (s:ZTb ops n E Fl i js l L fl fL) (h:∀ b,ZA K (q b) (PV Tryz.prog ops n Q E Fl r (fl b) (fL b))):ZA K (∀ b,q b) (PV Tryz.prog ops n Q E Fl (.cons i js r) l L):=fun hq=>s Q r fun b=>h b (hq b)
end
theorem zdP {id:Nat} {E Fl:List Nat} {S:List (Nat × List Nat)} {σ:List Nat} {i:Nat} (hf:zfind K.d id=some ⟨i,E,Fl,S,σ⟩) (hok:drawOK ops E Fl S σ n=true) (hFl:FlOK Tryz.prog ops Fl) (h:ZA K q (PW Tryz.prog ops n Q E Fl S σ [] l L)):ZA K q (ZW n l L ((Code.region id ops true).wp Tryz.prog Q)):=fun hq=>⟨fun a w F M=>sv_draw E Fl S σ F M hok hFl (h hq)⟩
theorem zdT {id:Nat} {E Fl:List Nat} {t:Tr} {i:Nat} (hf:zfindT K.t id=some ⟨i,E,Fl,t⟩) (hok:drawT ops E Fl t n=true) (hFl:FlOK Tryz.prog ops Fl) (h:ZA K q (PV Tryz.prog ops n Q E Fl t l L)):ZA K q (ZW n l L ((Code.region id ops true).wp Tryz.prog Q)):=fun hq=>⟨fun a w F M=>svTree E Fl t F M (h hq) hok hFl⟩
theorem ztA {E Fl:List Nat} {t1 t2:Tr} {q1 q2:Prop} (h1:ZA K q1 (PV Tryz.prog ops n Q E Fl t1 l L)) (h2:ZA K q2 (PV Tryz.prog ops n Q E Fl t2 l L)):ZA K (q1∧q2) (PV Tryz.prog ops n Q E Fl (.alt t1 t2) l L):=fun hq=>tvA (h1 hq.1) (h2 hq.2)
theorem zGo {f:FuncId} {fn:Func} {c:Code} {us:List Value} {L:List Asn} {L2:List Asn→List Asn} {C:Value→List Asn→Prop} {n k:Nat} (hf:Tryz.prog.funcs[f]? = some fn)
  (h:∀ G w,Mem w (L2 G)→∀ a,Fr a n (initL 0 us)→c.wp Tryz.prog (bodyPost Tryz.prog fn fun e w'=>∃ v L',e=.returned v∧C v L'∧Mem w' (L'++G)) a w)
  (hb:fn.body=some c:=by exact rfl) (hn:fn.ntmps=n:=by exact rfl) (hle:Nat.ble us.length n=true:=by exact rfl) (hk:n - us.length=k:=by exact rfl) (hL:∀ G,L++G=L2 G:=by(intro G;(try simp only[List.cons_append,List.nil_append]);exact rfl)):Spec f us L C:=fun G w M=>sx_enter hf hb hn hle hk fun a F=>h G w (hL G ▸ M) a F
theorem zGz (K:ZK) {f:FuncId} {fn:Func} {c:Code} {us:List Value} {L:List Asn} {L2:List Asn→List Asn} {C:Value→List Asn→Prop} {n k:Nat} (hf:Tryz.prog.funcs[f]? = some fn)
  (h:∀ G,YK K (ZW n (initL 0 us) (L2 G) (c.wp Tryz.prog (bodyPost Tryz.prog fn fun e w'=>∃ v L',e=.returned v∧C v L'∧Mem w' (L'++G)))))
  (hb:fn.body=some c:=by exact rfl) (hn:fn.ntmps=n:=by exact rfl) (hle:Nat.ble us.length n=true:=by exact rfl) (hk:n - us.length=k:=by exact rfl) (hL:∀ G,L++G=L2 G:=by(intro G;(try simp only[List.cons_append,List.nil_append]);exact rfl)):Spec f us L C:=fun G w M=>sx_enter hf hb hn hle hk fun a F=>ZW.h (h G) a w F (hL G ▸ M)
theorem zGe {f:FuncId} {fn:Func} {c:Code} {us:List Value} {w:World} {R:Ending→World→Prop} {n k:Nat} (hf:Tryz.prog.funcs[f]? = some fn) (h:∀ a,Fr a n (initL 0 us)→c.wp Tryz.prog (bodyPost Tryz.prog fn R) a w)
  (hb:fn.body=some c:=by exact rfl) (hn:fn.ntmps=n:=by exact rfl) (hle:Nat.ble us.length n=true:=by exact rfl) (hk:n - us.length=k:=by exact rfl):Calls Tryz.prog f us.toArray w R:=sx_enter hf hb hn hle hk h
theorem zXz {e:Exit} {fn:Func} {R:Ending→World→Prop} {rs:List ResultVar} {vs:List Value} {v:Value} (he:e=.normal∨e=.ret:=by(first|exact .inl rfl|exact .inr rfl)) (hf:fn.results=rs.toArray:=by exact rfl) (hr:Ress L l rs vs:=by(first|(focus ((repeat (first|exact Ress.nil|(apply Ress.cons)|(apply Res.tmp;exact rfl)|(apply Res.agg;(exact rfl);(exact inferInstance);((focus ((repeat (first|exact Pull.here|apply Pull.there));done)));(exact rfl))|(apply Res.one;(exact rfl);(exact inferInstance);((focus ((repeat (first|exact Pull.here|apply Pull.there));done)));(exact rfl))));done))|fail)) (hv:tupOf vs=v:=by exact rfl) (hR:∀ w,Mem w L→R (.returned v) w:=by(intro w M;exact⟨_,_,rfl,⟨rfl,rfl⟩,M.perms permsA⟩)):YK K (ZW n l L (bodyPost Tryz.prog fn R e)):=ZW.mk fun a w F M=>zE F M (hR w M) he hf hr hv
theorem kp {f:Operand} {xs:Array Operand} {ats:Array TypeId} {k:FuncId} {caps:Array Value} {vs us:List Value} {L1 L2:List Asn} {v:Value} {C:Value→List Asn→Prop} (hs:Spec k us L1 fun u L'=>u=v∧L'=L2) (h:C v L2)
  (ho:o.op=.call {callee:=.value f,args:=xs,argTypes:=ats}:=by exact rfl) (hf:evl l f=some (.func (.func k) #[] caps):=by exact rfl) (hfk:FK k:=by exact inferInstance) (hx:evls l xs.toList=some vs:=by exact rfl) (hu:vs++caps.toList=us:=by exact rfl) (hp:Perms L L1:=by exact permsA):AC o l L n C:=acK hs (fun _ _ ⟨e1,e2⟩=>by rw[e1,e2];exact h) ho hf hfk hx hu hp
theorem kpW {f:Operand} {xs:Array Operand} {ats:Array TypeId} {k:FuncId} {caps:Array Value} {vs us:List Value} {L2:List Asn} {v:Value} {C:Value→List Asn→Prop} (hs:Spec k us L fun u L'=>u=v∧L'=L2) (h:C v L2)
  (ho:o.op=.call {callee:=.value f,args:=xs,argTypes:=ats}:=by exact rfl) (hf:evl l f=some (.func (.func k) #[] caps):=by exact rfl) (hfk:FK k:=by exact inferInstance) (hx:evls l xs.toList=some vs:=by exact rfl) (hu:vs++caps.toList=us:=by exact rfl):AC o l L n C:=acW hs (fun _ _ ⟨e1,e2⟩=>by rw[e1,e2];exact h) ho hf hfk hx hu
def ZC (ops:Array Oper) (p:Prop) (o:Oper) (l:List (Nat × Value)) (L:List Asn) (n:Nat) (C:Value→List Asn→Prop):Prop:=AC o l L n C→p
theorem zcm {C D:Value→List Asn→Prop} (h:AC o l L n C) (hi:∀ v L',C v L'→D v L'):AC o l L n D:=fun F a w hF hM=>(h F a w hF hM).mono fun _ _ ⟨L',h1,h2⟩=>⟨L',hi _ _ h1,h2⟩
theorem zc1 {d:Nat} (hw:Wanted o ops l=some true) (hd:o.dst=some d) (hn:Nat.ble (d+1) n=true):ZC ops (ZW n l L (wpList Tryz.prog ops Q (o::rest))) o l L n (fun v L'=>ZW n ((d,v)::l) L' (wpList Tryz.prog ops Q rest)):=fun h=>⟨fun a w F M=>sv_act F M hw hd hn (zcm h fun _ _ h=>h.h)⟩
theorem zc0 (hw:Wanted o ops l=some true) (hd:o.dst=none):ZC ops (ZW n l L (wpList Tryz.prog ops Q (o::rest))) o l L n (fun v L'=>ZW n l L' (wpList Tryz.prog ops Q rest)):=fun h=>⟨fun a w F M=>sv_act0 F M hw hd (zcm h fun _ _ h w M=>h.h a w F M)⟩
section
variable {E Fl js:List Nat} {S:List (Nat × List Nat)} {σ done:List Nat} {i:Nat} {r:Tr}
theorem zcp {d:Nat} (hi:ops[i]? = some o) (hf:Fl.contains i=false) (he:E.contains i=true) (hw:Wanted o ops l=some true) (hd:o.dst=some d) (hj:lookS S i=js):ZC ops (PW Tryz.prog ops n Q E Fl S (i::σ) done l L) o l L n (fun v L'=>Rvs Tryz.prog ops n js ((d,v)::l) L'∧PW Tryz.prog ops n Q E Fl S σ (i::done) ((d,v)::l) L'):=fun h=>pvC h hi hf he hw hd hj
theorem zcp0 (hi:ops[i]? = some o) (hf:Fl.contains i=false) (he:E.contains i=true) (hw:Wanted o ops l=some true) (hd:o.dst=none) (hj:lookS S i=js):ZC ops (PW Tryz.prog ops n Q E Fl S (i::σ) done l L) o l L n (fun v L'=>Rvs Tryz.prog ops n js l L'∧PW Tryz.prog ops n Q E Fl S σ (i::done) l L'):=fun h=>pvC0 h hi hf he hw hd hj
theorem zct {d:Nat} (hi:ops[i]? = some o) (hf:Fl.contains i=false) (he:E.contains i=true) (hw:Wanted o ops l=some true) (hd:o.dst=some d):ZC ops (PV Tryz.prog ops n Q E Fl (.cons i js r) l L) o l L n (fun v L'=>Rvs Tryz.prog ops n js ((d,v)::l) L'∧PV Tryz.prog ops n Q E Fl r ((d,v)::l) L'):=fun h=>tvC h hi hf he hw hd
theorem zct0 (hi:ops[i]? = some o) (hf:Fl.contains i=false) (he:E.contains i=true) (hw:Wanted o ops l=some true) (hd:o.dst=none):ZC ops (PV Tryz.prog ops n Q E Fl (.cons i js r) l L) o l L n (fun v L'=>Rvs Tryz.prog ops n js l L'∧PV Tryz.prog ops n Q E Fl r l L'):=fun h=>tvC0 h hi hf he hw hd
end
theorem zC {C:Value→List Asn→Prop} (h:AC o l L n fun v L'=>YK K (C v L')) (s:ZC ops p o l L n C:=by(first|((with_reducible apply zc1);(exact rfl);(exact rfl);(exact rfl))|((with_reducible apply zc0);(exact rfl);(exact rfl))|((with_reducible apply zcp)<;>exact rfl)|((with_reducible apply zcp0)<;>exact rfl)|((with_reducible apply zct)<;>exact rfl)|((with_reducible apply zct0)<;>exact rfl))):YK K p:=s h
def ZRv (ops:Array Oper) (p:Prop) (P:Value→Prop) (o:Oper) (l:List (Nat × Value)) (L:List Asn) (n:Nat):Prop:=∀ v,RT o l L n v→P v→p
theorem zv1 {d:Nat} (hw:Wanted o ops l=some true) (hd:o.dst=some d) (hn:Nat.ble (d+1) n=true):ZRv ops (ZW n l L (wpList Tryz.prog ops Q (o::rest))) (fun v=>ZW n ((d,v)::l) L (wpList Tryz.prog ops Q rest)) o l L n:=fun v hr h=>⟨fun a w F M=>sv_run F M hw hd hn hr fun a' F'=>h.h a' w F' M⟩
section
variable {E Fl js:List Nat} {S:List (Nat × List Nat)} {σ done:List Nat} {i:Nat} {r:Tr}
theorem zvp {d:Nat} (hi:ops[i]? = some o) (hf:Fl.contains i=false) (he:E.contains i=false) (hw:Wanted o ops l=some true) (hd:o.dst=some d):ZRv ops (PW Tryz.prog ops n Q E Fl S (i::σ) done l L) (fun v=>PW Tryz.prog ops n Q E Fl S σ (i::done) ((d,v)::l) L) o l L n:=fun v hr h=>pv1 h hi hf he hw hd hr
theorem zvt {d:Nat} (hi:ops[i]? = some o) (hf:Fl.contains i=false) (he:E.contains i=false) (hw:Wanted o ops l=some true) (hd:o.dst=some d):ZRv ops (PV Tryz.prog ops n Q E Fl (.cons i js r) l L) (fun v=>PV Tryz.prog ops n Q E Fl r ((d,v)::l) L) o l L n:=fun v hr h=>tv1 h hi hf he hw hd hr
end
theorem zV {P:Value→Prop} (s:ZRv ops p P o l L n:=by(first|((with_reducible apply zv1)<;>exact rfl)|((with_reducible apply zvp)<;>exact rfl)|((with_reducible apply zvt)<;>exact rfl))) (h:∃ v,RT o l L n v∧YK K (P v)):YK K p:=h.elim fun v h=>s v h.1 h.2
def ZQ (p p1 p2 x y:Prop):Prop:=(p1→x)→(p2→y)→p
theorem zq {c:Operand} {x y:Code} {b:Bool} {p1 p2:Prop} (hc:evl l c=some (.bool b)) (ht:(b=true→p1)∧(b=false→p2)):ZQ (ZW n l L ((Code.cond c x y).wp Tryz.prog Q)) p1 p2 (ZW n l L (x.wp Tryz.prog Q)) (ZW n l L (y.wp Tryz.prog Q)):=fun h1 h2=>⟨fun a w F M=>svB F (fun h=>(h1 h).h a w F M) (fun h=>(h2 h).h a w F M) hc ht⟩
theorem zB {p1 p2 x y:Prop} (h1:p1→YK K x) (h2:p2→YK K y) (s:ZQ p p1 p2 x y:=by((with_reducible apply zq);(exact rfl);(exact tidyA))):YK K p:=s h1 h2
theorem zg {b:Bool} (hg:guardOf o ops l=some (.bool b)):ZQ (ZW n l L (wpList Tryz.prog ops Q (o::rest))) (b=true) (b=false) (ZW n l L (wpList Tryz.prog ops Q (o::rest))) (ZW n l L (wpList Tryz.prog ops Q (o::rest))):=fun h1 h2=>⟨fun a w F M=>sx_guardb F hg (fun h=>(h1 h).h a w F M) (fun h=>(h2 h).h a w F M)⟩
theorem zgw {p1 p2 x y:Prop} (hw:Wanted o ops l=some true) (h:ZQ (ZW n l L (wpList Tryz.prog ops Q (o::rest))) p1 p2 x y):ZQ (ZW n l L (wpList Tryz.prog ops Q (o::rest))) p1 p2 x y:=h
theorem zH {p1 p2 x y:Prop} (h1:p1→YK K x) (h2:p2→YK K y) (s:ZQ p p1 p2 x y:=by((fail_if_success((with_reducible apply zgw);(exact rfl)));(with_reducible apply zg);(exact rfl))):YK K p:=s h1 h2
section
variable {n2 k2:Nat} {l2:List (Nat × Value)} {L2 L3 G:List Asn} {K2:ZK} {C:Value→List Asn→Prop} {fn:Func} {c:Code}
def zU (c:Code) (Q:Exit→Act→World→Prop):Nat→Act→World→Prop
 | 0,_,_=>False
 | k+1,a,w=>c.wp Tryz.prog (Exit.then (zU c Q k) Q) a w
theorem zU_wp {k:Nat} {a:Act} {w:World} (h:zU c Q k a w):(Code.loop c).wp Tryz.prog Q a w :=
 wp_loop_ghost (fun k a w=>zU c Q k a w) id (fun k a w hk=>by
  cases k with
  | zero=>exact hk.elim
  | succ k=>exact wp_mono hk fun e a w h=>by cases e<;>first|exact⟨k,h,Nat.lt_succ_self k⟩|exact h) k h
class IL (n:Nat):Prop where
 t:True
class FN (f:FuncId) (fn:outParam Func) (K:outParam ZK):Prop where
 h:Tryz.prog.funcs[f]? = some fn
 k:FK f
def zku (K:ZK):ZK:=⟨K.s,K.d,⟨4294967295,[],[],.nil⟩::K.t⟩
def isU (K:ZK):Bool:=match K.t with|r::_=>Nat.beq r.id 4294967295|[]=>false
theorem zaU (hK:isU K=true) (h:ZA K q (ZW n l L (zU c Q 40))):ZA K q (ZW n l L ((Code.loop c).wp Tryz.prog Q)):=fun hq=>⟨fun a w F M=>zU_wp ((h hq).h a w F M)⟩
theorem zaV {k:Nat} (h:ZA K q (ZW n l L (c.wp Tryz.prog (Exit.then (zU c Q k) Q)))):ZA K q (ZW n l L (zU c Q (k+1))):=h
theorem ac_appendO {x y:Operand} {t:TypeId} {ats:Array TypeId} (ho:o.op=.call {callee:=.builtin .append,args:=#[x,y],argTypes:=ats}) (hat:ats = #[t,t]) {e:TypeId} {z:Value} {size bytes:Nat} (ht:ST t e z size bytes) {v:Value} (hx:evl l x=some v) {u:Value} (hy:evl l y=some u)
  {m:Nat} {xs:List Value} {L':List Asn} (hp:Pull L (own e size v m xs) L') {k:Nat} {news:List Value} (hg:GS L size u k news) (h1:news.all (·.oneCell')=true) (hb:Nat.ble ((m+k)*(bytes+1)) 1000000=true) (h0:Nat.ble 1 (m+k)=true) {r:List Value} (hr:xs++news=r) {j:Nat} (hj:m+k=j)
  (h:∀ g c,C (.slice (some ⟨g,0,none⟩) j c) (own e size (.slice (some ⟨g,0,none⟩) j c) j r::L')):AC o l L n C:=fun G a w F M=>by
 subst hat;subst hr;subst hj
 have hb1:=Nat.le_of_ble_eq_true hb
 have h01:=Nat.le_of_ble_eq_true h0
 rw[Nat.mul_add] at hb1
 obtain ⟨v',w',hr,hM⟩:=append_run (ty:=o.type) ht (M.pull (hp.app G)) (hg w M.drop_app) (all_one h1) (by simp only[maxLen];omega) (by omega)
 obtain ⟨s,hs,_⟩:=hM.head
 rcases hs.2 with⟨_,h2,_⟩|⟨g,cap,cur,rfl,_⟩
 ·omega
 have:(execOp a.eval o).run Tryz.prog w=.ok (.value (.slice (some ⟨g,0,none⟩) (m+k) cap)) w':=by
  unfold execOp
  rw[ho]
  simp[resolve,invoke,builtin,F.eval hx,F.eval hy,hr]
 rw[this]
 exact⟨_,h g cap,hM⟩
theorem zaO {C:Value→List Asn→Prop} {f:Nat→Nat→Value} {A:Nat→Nat→List Asn} {q:Nat→Nat→Prop} (s:ZC ops p o l L n C) (ha:(∀ g c,C (f g c) (A g c))→AC o l L n C) (h:∀ g c,ZA K (q g c) (C (f g c) (A g c))):ZA K (∀ g c,q g c) p:=fun hq=>s (ha fun g c=>h g c (hq g c))
def YR (K:ZK) (ops:Array Oper) (n:Nat) (l:List (Nat × Value)) (d:Option Nat) (Q:Exit→Act→World→Prop) (rest:List Oper):Ending→World→Prop:=fun e w=>∃ v,e=.returned v∧∀ a,Fr a n (putL d v l)→wpList Tryz.prog ops Q rest a w
def YS (K:ZK) (C:Value→List Asn→Prop) (G:List Asn):Ending→World→Prop:=fun e w=>∃ v L,e=.returned v∧C v L∧Mem w (L++G)
def Spl (G L L2:List Asn):Prop:=L=L2++G
theorem spN:Spl G G []:=rfl
theorem spR {R:List Asn}:Spl G (R++G) R:=rfl
theorem spC {A:Asn} (h:Spl G L L2):Spl G (A::L) (A::L2):=by rw[Spl] at *;rw[h];rfl
theorem call_spec {f:Operand} {xs:Array Operand} {ats:Array TypeId} (ho:o.op=.call {callee:=.value f,args:=xs,argTypes:=ats}) {k:FuncId} {fs caps:Array Value} (hf:evl l f=some (.func (.func k) fs caps)) (hfk:FK k)
  {vs us:List Value} (hx:evls l xs.toList=some vs) (hu:fs.toList++vs++caps.toList=us) {a:Act} (F:Fr a n l) (w:World):(execOp a.eval o).run Tryz.prog w=.ok (.enter k us.toArray) w:=by
 have e1:xs.map a.eval=vs.toArray:=by have:=F.evals hx;apply Array.toList_inj.1;simpa using this
 unfold execOp
 rw[ho]
 rw[Sem.run_bind]
 simp only[resolve,F.eval hf,Deferred.ofValue,Sem.run_pure,Result.andThen_ok,invoke,e1]
 have:fs++vs.toArray++caps=us.toArray:=by rw[← hu];apply Array.toList_inj.1;simp
 rw[this]
 exact @run_callFunc k hfk _ w
theorem zaI {f:Operand} {xs:Array Operand} {ats:Array TypeId} {k:FuncId} {fs caps:Array Value} {vs us:List Value} (ho:o.op=.call {callee:=.value f,args:=xs,argTypes:=ats}) (hf:evl l f=some (.func (.func k) fs caps)) (hfk:FN k fn K2) (hx:evls l xs.toList=some vs) (hu:fs.toList++vs++caps.toList=us) (hw:Wanted o ops l=some true) {t:Nat} (hd:o.dst=some t) (ht:Nat.ble (t+1) n=true)
  (hb:fn.body=some c) (hn:fn.ntmps=n2) (hle:Nat.ble us.length n2=true) (hk:n2 - us.length=k2) (h:ZA K2 q (ZW n2 (initL 0 us) L (c.wp Tryz.prog (bodyPost Tryz.prog fn (YR K ops n l (some t) Q rest))))):ZA K q (ZW n l L (wpList Tryz.prog ops Q (o::rest))):=fun hq=>⟨fun a w F M=>by
 unfold wpList
 rw[if_pos (F.wanted hw)]
 refine .inl ?_
 unfold Oper.wp
 rw[call_spec ho hf hfk.k hx hu F w]
 exact(sx_enter (vs:=us) hfk.h hb hn hle hk fun a2 F2=>(h hq).h a2 w F2 M).mono fun e w' ⟨v,he,hv⟩=>by
  subst he
  rw[hd]
  exact hv _ (F.put t v ht)⟩
theorem zaH {f:Operand} {xs:Array Operand} {ats:Array TypeId} {k:FuncId} {fs caps:Array Value} {vs us:List Value} (ho:o.op=.call {callee:=.value f,args:=xs,argTypes:=ats}) (hf:evl l f=some (.func (.func k) fs caps)) (hfk:FN k fn K2) (hx:evls l xs.toList=some vs) (hu:fs.toList++vs++caps.toList=us) (hw:Wanted o ops l=some true) (hd:o.dst=none)
  (hb:fn.body=some c) (hn:fn.ntmps=n2) (hle:Nat.ble us.length n2=true) (hk:n2 - us.length=k2) (h:ZA K2 q (ZW n2 (initL 0 us) L (c.wp Tryz.prog (bodyPost Tryz.prog fn (YR K ops n l none Q rest))))):ZA K q (ZW n l L (wpList Tryz.prog ops Q (o::rest))):=fun hq=>⟨fun a w F M=>by
 unfold wpList
 rw[if_pos (F.wanted hw)]
 refine .inl ?_
 unfold Oper.wp
 rw[call_spec ho hf hfk.k hx hu F w]
 exact(sx_enter (vs:=us) hfk.h hb hn hle hk fun a2 F2=>(h hq).h a2 w F2 M).mono fun e w' ⟨v,he,hv⟩=>by
  subst he
  rw[hd]
  exact hv _ F⟩
theorem ressA {rs:List ResultVar} {vs:List Value} (h:Ress L l rs vs:=by(first|(focus ((repeat (first|exact Ress.nil|(apply Ress.cons)|(apply Res.tmp;exact rfl)|(apply Res.agg;(exact rfl);(exact inferInstance);((focus ((repeat (first|exact Pull.here|apply Pull.there));done)));(exact rfl))|(apply Res.one;(exact rfl);(exact inferInstance);((focus ((repeat (first|exact Pull.here|apply Pull.there));done)));(exact rfl))));done))|fail)):Ress L l rs vs:=h
theorem exA' {e:Exit} (h:e=.normal∨e=.ret:=by(first|exact .inl rfl|exact .inr rfl)):e=.normal∨e=.ret:=h
theorem tw1 {v:Value}:tupOf [v]=v:=rfl
theorem twN {vs:List Value} {x y:Value}:tupOf (x::y::vs)=.tuple (x::y::vs).toArray:=rfl
theorem tw0:tupOf []=.tuple #[]:=rfl
theorem zaR {e:Exit} {t:Nat} {rs:List ResultVar} {vs:List Value} {v:Value} (he:e=.normal∨e=.ret) (hf:fn.results=rs.toArray) (hr:Ress L2 l2 rs vs) (hv:tupOf vs=v) (h:ZA K q (ZW n ((t,v)::l) L2 (wpList Tryz.prog ops Q rest))):ZA K2 q (ZW n2 l2 L2 (bodyPost Tryz.prog fn (YR K ops n l (some t) Q rest) e)):=fun hq=>⟨fun a w F M=>zE F M ⟨v,rfl,fun a' F'=>(h hq).h a' w F' M⟩ he hf hr hv⟩
theorem zaR0 {e:Exit} {rs:List ResultVar} {vs:List Value} {v:Value} (he:e=.normal∨e=.ret) (hf:fn.results=rs.toArray) (hr:Ress L2 l2 rs vs) (hv:tupOf vs=v) (h:ZA K q (ZW n l L2 (wpList Tryz.prog ops Q rest))):ZA K2 q (ZW n2 l2 L2 (bodyPost Tryz.prog fn (YR K ops n l none Q rest) e)):=fun hq=>⟨fun a w F M=>zE F M ⟨v,rfl,fun a' F'=>(h hq).h a' w F' M⟩ he hf hr hv⟩
theorem zaJ {f:Operand} {xs:Array Operand} {ats:Array TypeId} {k:FuncId} {fs caps:Array Value} {vs us:List Value} {L1:List Asn→List Asn} {q:List Asn→Prop} (s:ZC ops p o l L n C) (ho:o.op=.call {callee:=.value f,args:=xs,argTypes:=ats}) (hf:evl l f=some (.func (.func k) fs caps)) (hfk:FN k fn K2) (hx:evls l xs.toList=some vs) (hu:fs.toList++vs++caps.toList=us)
  (hb:fn.body=some c) (hn:fn.ntmps=n2) (hle:Nat.ble us.length n2=true) (hk:n2 - us.length=k2) (hL:∀ G,L++G=L1 G) (h:∀ G,ZA K2 (q G) (ZW n2 (initL 0 us) (L1 G) (c.wp Tryz.prog (bodyPost Tryz.prog fn (YS K C G))))):ZA K (∀ G,q G) p:=fun hq=>s fun G a w F M=>by
 rw[call_spec ho hf hfk.k hx hu F w]
 exact(sx_enter (vs:=us) hfk.h hb hn hle hk fun a2 F2=>(h G (hq G)).h a2 w F2 (hL G ▸ M)).mono fun e w' ⟨v,L',he,hc,hm⟩=>⟨v,he,L',hc,hm⟩
theorem zaS {e:Exit} {rs:List ResultVar} {vs:List Value} {v:Value} (he:e=.normal∨e=.ret) (hf:fn.results=rs.toArray) (hr:Ress L2 l2 rs vs) (hv:tupOf vs=v) (hs:Spl G L2 L3) (h:ZA K q (C v L3)):ZA K2 q (ZW n2 l2 L2 (bodyPost Tryz.prog fn (YS K C G) e)):=fun hq=>⟨fun a w F M=>zE F M ⟨v,L3,rfl,h hq,by rw[Spl] at hs;rw[← hs];exact M⟩ he hf hr hv⟩
theorem zYD {c:Operand} {x y:Code} {b:Bool} {p1 p2:Prop} (hc:evl l c=some (.bool b)) (ht:(b=true→p1)∧(b=false→p2)) (h:(p2→False)∧ZA K q (ZW n l L (x.wp Tryz.prog Q))∨(p1→False)∧ZA K q (ZW n l L (y.wp Tryz.prog Q))):ZA K q (ZW n l L ((Code.cond c x y).wp Tryz.prog Q)):=by
 cases b
 ·exact h.elim (fun h=>(h.1 (ht.2 rfl)).elim) fun h=>zcF hc h.2
 ·exact h.elim (fun h=>zcT hc h.2) fun h=>(h.1 (ht.1 rfl)).elim
theorem zYw (hw:Wanted o ops l=some true) (h:ZA K q (ZW n l L (wpList Tryz.prog ops Q (o::rest)))):ZA K q (ZW n l L (wpList Tryz.prog ops Q (o::rest))):=h
theorem zYg {b:Bool} (hg:guardOf o ops l=some (.bool b)) (hn:b=false→False) (h:b=true→ZA K q (ZW n l L (wpList Tryz.prog ops Q (o::rest)))):ZA K q (ZW n l L (wpList Tryz.prog ops Q (o::rest))):=h (by cases b;exact(hn rfl).elim;rfl)
theorem zYh {b:Bool} (hg:guardOf o ops l=some (.bool b)) (hn:b=true→False) (h:b=false→ZA K q (ZW n l L (wpList Tryz.prog ops Q (o::rest)))):ZA K q (ZW n l L (wpList Tryz.prog ops Q (o::rest))):=h (by cases b;rfl;exact(hn rfl).elim)
section
variable {E Fl js:List Nat} {S:List (Nat × List Nat)} {σ done:List Nat} {i:Nat} {r:Tr}
theorem zYj (hi:ops[i]? = some o) (hw:Wanted o ops l=some true) (h:ZA K q (PW Tryz.prog ops n Q E Fl S (i::σ) done l L)):ZA K q (PW Tryz.prog ops n Q E Fl S (i::σ) done l L):=h
theorem zYk {b:Bool} (hi:ops[i]? = some o) (hg:guardOf o ops l=some (.bool b)) (hn:b=false→False) (h:b=true→ZA K q (PW Tryz.prog ops n Q E Fl S (i::σ) done l L)):ZA K q (PW Tryz.prog ops n Q E Fl S (i::σ) done l L):=h (by cases b;exact(hn rfl).elim;rfl)
theorem zYl {b:Bool} (hi:ops[i]? = some o) (hg:guardOf o ops l=some (.bool b)) (hn:b=true→False) (h:b=false→ZA K q (PW Tryz.prog ops n Q E Fl S (i::σ) done l L)):ZA K q (PW Tryz.prog ops n Q E Fl S (i::σ) done l L):=h (by cases b;rfl;exact(hn rfl).elim)
theorem zYm {b:Bool} (hi:ops[i]? = some o) (hg:guardOf o ops l=some (.bool b)) (hn:b=false→False) (h:b=true→ZA K q (PV Tryz.prog ops n Q E Fl (.cons i js r) l L)):ZA K q (PV Tryz.prog ops n Q E Fl (.cons i js r) l L):=h (by cases b;exact(hn rfl).elim;rfl)
theorem zYn {b:Bool} (hi:ops[i]? = some o) (hg:guardOf o ops l=some (.bool b)) (hn:b=true→False) (h:b=false→ZA K q (PV Tryz.prog ops n Q E Fl (.cons i js r) l L)):ZA K q (PV Tryz.prog ops n Q E Fl (.cons i js r) l L):=h (by cases b;rfl;exact(hn rfl).elim)
theorem zYo (hi:ops[i]? = some o) (hw:Wanted o ops l=some true) (h:ZA K q (PV Tryz.prog ops n Q E Fl (.cons i js r) l L)):ZA K q (PV Tryz.prog ops n Q E Fl (.cons i js r) l L):=h
end
theorem zY0 {r:Prop} (h:ZA K q p) (h':ZA K r q):ZA K r p:=fun hr=>h (h' hr)
theorem zYt {r:Prop} (h:ZA K2 r p):ZA K r (YK K2 p):=h
theorem zY1 (h:ZA K q p:=by((first|((with_reducible apply za1);(first|exact zo1|exact zo3|exact zoK|exact zoK0))|((with_reducible apply zaB);(exact zob);intro nb)|with_reducible apply zaP|with_reducible apply zaP0|((with_reducible apply zaN);(exact rfl))|with_reducible apply zaM|((with_reducible apply zcT);(exact rfl))|((with_reducible apply zcF);(exact rfl))|with_reducible apply zcR|with_reducible apply zcQ|with_reducible apply zeN|with_reducible apply zcB|with_reducible apply zcE|with_reducible apply zcX|with_reducible apply zcK|with_reducible apply zcL|with_reducible apply zcS|with_reducible apply zbN|((with_reducible apply zbX);(exact rfl))|((with_reducible apply zbY);(exact rfl))|with_reducible apply zeR|with_reducible apply zbR|with_reducible apply zeX|with_reducible apply zgN|with_reducible apply zgR|with_reducible apply zgX|((with_reducible apply zpA);(first|exact zq1|exact zq3|exact zqK|exact zqK0))|((with_reducible apply zpB);(first|exact zb2|exact zbF);intro nb)|((with_reducible apply zpN);(exact rfl))|with_reducible apply zpM|((with_reducible apply zpV);(exact rvsA))|((with_reducible apply zt1);(first|exact zts1|exact zts3|exact ztsK|exact ztsK0))|((with_reducible apply ztB);(first|exact ztb2|exact ztbF);intro nb)|((with_reducible apply ztN);(exact rfl))|with_reducible apply ztM|((with_reducible apply zdP);(exact rfl);(kernel_rfl);((first|(focus ((repeat (first|exact flok_nil|(apply flok_cons;(exact rfl);(exact rfl);(exact inferInstance);(exact rfl);(exact rfl))));done))|fail)))|((with_reducible apply zdT);(exact rfl);(kernel_rfl);((first|(focus ((repeat (first|exact flok_nil|(apply flok_cons;(exact rfl);(exact rfl);(exact inferInstance);(exact rfl);(exact rfl))));done))|fail)))|with_reducible apply ztA);(all_goals exact zaK))):ZA K q p:=h
theorem zYi (h:ZA K q p:=by((first|((with_reducible apply zaI);(exact rfl);(exact rfl);(exact inferInstance);(exact rfl);(exact rfl);(exact rfl);(exact rfl);(exact rfl);(exact rfl);(exact rfl);(exact rfl);(exact rfl))|((with_reducible apply zaH);(exact rfl);(exact rfl);(exact inferInstance);(exact rfl);(exact rfl);(exact rfl);(exact rfl);(exact rfl);(exact rfl);(exact rfl);(exact rfl))|((with_reducible apply zaR);(exact exA');(exact rfl);(exact ressA);(first|exact tw1|exact twN|exact tw0))|((with_reducible apply zaR0);(exact exA');(exact rfl);(exact ressA);(first|exact tw1|exact twN|exact tw0))|((with_reducible apply zaS);(exact exA');(exact rfl);(exact ressA);(first|exact tw1|exact twN|exact tw0);(focus ((repeat (first|exact spN|exact spR|apply spC));done)))|((with_reducible apply zaU);(exact rfl))|with_reducible apply zaV|((with_reducible apply zaJ);(first|((with_reducible apply zcp)<;>exact rfl)|((with_reducible apply zcp0)<;>exact rfl)|((with_reducible apply zct)<;>exact rfl)|((with_reducible apply zct0)<;>exact rfl));(exact rfl);(exact rfl);(exact inferInstance);(exact rfl);(exact rfl);(exact rfl);(exact rfl);(exact rfl);(exact rfl);(intro G;(try simp only[List.cons_append,List.nil_append]);exact rfl);(intro G))|((with_reducible apply zaO);(first|((with_reducible apply zc1);(exact rfl);(exact rfl);(exact rfl))|((with_reducible apply zcp)<;>exact rfl)|((with_reducible apply zct)<;>exact rfl));(intro h;apply ac_appendO;(exact rfl);(exact rfl);(exact inferInstance);(exact rfl);(exact rfl);(exact pullA);(exact gsA);(exact rfl);(exact rfl);(exact rfl);(exact rfl);(exact rfl);(exact h));(intro g c))|fail);(all_goals exact zaK))):ZA K q p:=h
theorem zYb {r s:List Asn→Prop} (h:∀ b,ZA K (r b) (s b)):ZA K (∀ b,r b) (∀ b,s b):=fun hr b=>h b (hr b)
theorem zYd (h:ZA K q p:=by((first|((with_reducible apply zYD);(exact rfl);(exact tidyA);(first|((refine .inl ⟨?_,?_⟩);(intro hc;exact no hc))|((refine .inr ⟨?_,?_⟩);(intro hc;exact no hc))|fail))|((fail_if_success((with_reducible apply zYw);(exact rfl)));(first|((with_reducible apply zYg);(exact rfl);(intro hc;exact no hc))|((with_reducible apply zYh);(exact rfl);(intro hc;exact no hc))|fail);(intro hg;rw[hg]))|((fail_if_success((with_reducible apply zYj);(exact rfl);(exact rfl)));(first|((with_reducible apply zYk);(exact rfl);(exact rfl);(intro hc;exact no hc))|((with_reducible apply zYl);(exact rfl);(exact rfl);(intro hc;exact no hc))|fail);(intro hg;rw[hg]))|((fail_if_success((with_reducible apply zYo);(exact rfl);(exact rfl)));(first|((with_reducible apply zYm);(exact rfl);(exact rfl);(intro hc;exact no hc))|((with_reducible apply zYn);(exact rfl);(exact rfl);(intro hc;exact no hc))|fail);(intro hg;rw[hg]))|fail);(all_goals exact zaK))):ZA K q p:=h
theorem zYa {r s:Nat→Prop} (h:∀ b,ZA K (r b) (s b)):ZA K (∀ b,r b) (∀ b,s b):=fun hr b=>h b (hr b)
theorem zYc {r1 r2 s1 s2:Prop} (h1:ZA K r1 s1) (h2:ZA K r2 s2):ZA K (r1∧r2) (s1∧s2):=fun hr=>⟨h1 hr.1,h2 hr.2⟩
theorem zA0 (hq:q) (h:ZA K q p:=by(((with_reducible apply zY0);(exact zY1));(repeat'(first|with_reducible apply zYt|((with_reducible apply zY0);(exact zY1))|((with_reducible apply zYa);intro nb)|((with_reducible apply zYb);intro G)|with_reducible apply zYc));(all_goals exact zaK))):YK K p:=h hq
theorem zA (hq:q) (h:ZA K q p:=by((first|((with_reducible apply zY0);(exact zY1))|((with_reducible apply zY0);(exact zYi))|((with_reducible apply zY0);(exact zYd)));(repeat'(first|with_reducible apply zYt|((with_reducible apply zY0);(exact zY1))|((with_reducible apply zY0);(exact zYi))|((with_reducible apply zY0);(exact zYd))|((with_reducible apply zYa);intro nb)|((with_reducible apply zYb);intro G)|with_reducible apply zYc));(all_goals exact zaK))):YK K p:=h hq
theorem zA1 (hq:q) (h:ZA K q p:=by((with_reducible apply zY0);(exact zY1);(repeat'(first|with_reducible apply zYt|((with_reducible apply zYa);intro nb)|((with_reducible apply zYb);intro G)|with_reducible apply zYc));(all_goals exact zaK))):YK K p:=h hq
theorem zst {c:Operand} {v x y z:Code} (h:ZA K q (ZW n l L ((Code.seq (Code.seq v (Code.cond c x y)) z).wp Tryz.prog Q))):ZA K q (ZW n l L ((Code.seq (Code.seq v (Code.cond c x y)) z).wp Tryz.prog Q)):=h
theorem zJ1 (hq:q) (h:ZA K q p:=by((fail_if_success(with_reducible apply zst));((with_reducible apply zY0);(exact zY1));(repeat'(first|with_reducible apply zYt|((with_reducible apply zYa);intro nb)|((with_reducible apply zYb);intro G)|with_reducible apply zYc));(all_goals exact zaK))):YK K p:=h hq
end
end
end
section
open Go.RowKit Go.Maps
theorem laidOutP:laidOutB Tryz.prog=true:=by kernel_rfl
theorem stepKeyed:Keyed Tryz.prog 411:=Keyed.of_law (deep_law_laid laidOutP (m:=3) (by decide) (of_decide_eq_true (by kernel_rfl)) (by kernel_rfl) (by kernel_rfl))
def stepV (a b:Int):Value:=.agg #[.int .i64 a,.int .i64 b]
theorem stepKey (a b:Int) (ha:(Lit.int .i64 a).wf=true) (hb:(Lit.int .i64 b).wf=true):∃ l,keyOf Tryz.prog 411 (stepV a b)=some l:=by
 have h1:Program.keyType Tryz.prog 411=true:=by kernel_rfl
 have h2:(stepV a b).formed Tryz.prog 411=true:=by kernel_rfl
 have h3:Tryz.prog.keyLits (Tryz.prog.types.size+1) 411 (stepV a b).cells.toList=some [.int .i64 a,.int .i64 b]:=by
  have c1:Tryz.prog.cellsOf 411=2:=by kernel_rfl
  have c2:Tryz.prog.cellsOf 3=1:=by kernel_rfl
  have fuel:∃ n,Tryz.prog.types.size+1=n+2:=⟨Tryz.prog.types.size - 1,by have:Tryz.prog.types.size≠0:=(by decide +kernel:Tryz.prog.types.size≠0);omega⟩
  obtain ⟨n,hn⟩:=fuel
  rw[hn]
  simp[Program.keyLits,Tryz.underlying411,Tryz.underlying3,stepV,Value.cells,c1,c2,ha,hb,List.mapM_cons]
 refine⟨.string (keyBytes [.int .i64 a,.int .i64 b]),?_⟩
 unfold keyOf
 rw[Tryz.underlying411]
 simp only[h1,h2,h3,Bool.and_self,if_true,Option.map_some]
theorem wf_small (n:Int) (h0:0≤n) (h1:n≤100):(Lit.int .i64 n).wf=true:=WalkArith.wf_i64 (by omega)
theorem run_build_step (A:Act) (o:Oper) (a b:Int) (ho:o.op=.build 411 #[(0,.const (.int .i64 a)),(1,.const (.int .i64 b))]) (w':World):(execOp A.eval o).run Tryz.prog w'=.ok (.value (stepV a b)) w':=by
 have hb:Tryz.prog.built 411 [(0,.int .i64 a),(1,.int .i64 b)]=some #[.int .i64 a,.int .i64 b]:=by kernel_rfl
 unfold execOp
 simp only[ho]
 simp[Act.eval,run_build w' _ _ _ hb,stepV]
def stepMap:List (Value × Value):=[(stepV 1 1,.int .i64 2),(stepV 2 2,.int .i64 3),(stepV 3 3,.int .i64 4),(stepV 4 4,.int .i64 5),(stepV 5 5,.int .i64 6),(stepV 2 6,.int .i64 7),(stepV 2 7,.int .i64 3),(stepV 3 7,.int .i64 3),(stepV 4 7,.int .i64 4),(stepV 5 7,.int .i64 4)]
def stepKs:List Lk:=.make::(stepMap.flatMap fun p=>[.val,.ins p.1 p.2])++[.val,.val]
set_option maxHeartbeats 1000000 in
theorem table_any (w:World) :
  Calls Tryz.prog 312 #[] w fun e w'=>e=.returned (.map (some w.heap.size))∧Below w.heap.size w w'∧MapIs Tryz.prog 411 w' w.heap.size stepMap:=by
 go_enter Tryz.func312,Tryz.ntmps312
 go_wp2_with fail
 refine wp_region_map Tryz.underlying408 stepKeyed 1 0 stepKs #[.map (some w.heap.size),.map (some w.heap.size),stepV 1 1,stepV 2 2,stepV 3 3,stepV 4 4,stepV 5 5,stepV 2 6,stepV 2 7,stepV 3 7,stepV 4 7,stepV 5 7,.map (some w.heap.size)] (by kernel_rfl) (by kernel_rfl) (by kernel_rfl) rfl ?_ rfl ?_ ?_ (by decide) ?_
 ·exact rest_of [(0,.map (some w.heap.size)),(1,.map (some w.heap.size)),(2,stepV 1 1),(3,stepV 2 2),(4,stepV 3 3),(5,stepV 4 4),(6,stepV 5 5),(7,stepV 2 6),(8,stepV 2 7),(9,stepV 3 7),(10,stepV 4 7),(11,stepV 5 7),(12,.map (some w.heap.size))] (by kernel_rfl) [0,1,2,3,4,5,6,7,8,9,10,11,12] rfl (by kernel_rfl)
 ·have val:∀ {o:Oper} {v:Value} {d:Tmp} {A:Act} {i:Nat},o.guard=none→o.dst=some d→v=A.tmps.getD d undef→(∀ w',(execOp A.eval o).run Tryz.prog w'=.ok (.value v) w')→i≠0→LitOp Tryz.prog A 1 408 411 0 o .val∧(Lk.val=.make↔i=0) :=
   fun h1 h2 h3 h4 h5=>⟨⟨h1,_,fun d hd=>(by rw[h2] at hd;cases hd;exact h3),h4⟩,by simp[h5]⟩
  have ins:∀ {o:Oper} {k v:Value} {kx vx:Operand} {A:Act} {i:Nat},o.op=.insert 408 (.tmp 1) kx vx→o.dst=none→o.guard=none→A.eval kx=k→A.eval vx=v→(o.after.toList.any fun e=>Region.binds .any e && e.on == 0)=true→(∃ l,keyOf Tryz.prog 411 k=some l)→i≠0 →
    LitOp Tryz.prog A 1 408 411 0 o (.ins k v)∧(Lk.ins k v=.make↔i=0):=fun h1 h2 h3 h4 h5 h6 h7 h8=>⟨⟨_,_,h1,h2,h3,h4,h5,h6,h7⟩,by simp[h8]⟩
  refine⟨⟨⟨rfl,rfl,rfl⟩,by simp⟩,?_⟩
  iterate 10 refine⟨val rfl rfl rfl (run_build_step _ _ _ _ rfl) (by omega),⟨ins rfl rfl rfl rfl rfl (by kernel_rfl) (stepKey _ _ (wf_small _ (by omega) (by omega)) (wf_small _ (by omega) (by omega))) (by omega),?_⟩⟩
  exact⟨val rfl rfl rfl (fun w'=>rfl) (by omega),⟨val rfl rfl rfl (fun w'=>rfl) (by omega),trivial⟩⟩
 ·show(stepMap.map (·.1)).Nodup
  simp[stepMap,stepV]
 ·intro w' hb hs hM
  go_wp2
  go_ret
  exact⟨rfl,hb,hM⟩
def nextF (s e:Int):Int :=
 if e=7 then (if s=2∨s=3 then 3 else if s=4∨s=5 then 4 else 0)
 else if e=6∧s=2 then 7
 else if 1≤e∧e≤5∧s=e then s+1 else 0
theorem step_in {s e:Int} (h:nextF s e≠0):(stepV s e,.int .i64 (nextF s e))∈stepMap:=by
 unfold nextF at *
 by_cases h7:e=7
 ·subst h7
  rw[if_pos rfl] at *
  by_cases h1:s=2∨s=3
  ·rw[if_pos h1];rcases h1 with rfl|rfl<;>simp[stepMap]
  ·rw[if_neg h1] at *
   by_cases h2:s=4∨s=5
   ·rw[if_pos h2];rcases h2 with rfl|rfl<;>simp[stepMap]
   ·rw[if_neg h2] at h;exact absurd rfl h
 ·rw[if_neg h7] at *
  by_cases h6:e=6∧s=2
  ·rw[if_pos h6];obtain ⟨rfl,rfl⟩:=h6;simp[stepMap]
  ·rw[if_neg h6] at *
   by_cases h5:1≤e∧e≤5∧s=e
   ·rw[if_pos h5]
    obtain ⟨h1,h2,rfl⟩:=h5
    have:s=1∨s=2∨s=3∨s=4∨s=5:=by omega
    rcases this with rfl|rfl|rfl|rfl|rfl<;>simp[stepMap]
   ·rw[if_neg h5] at h;exact absurd rfl h
theorem step_out {s e:Int} (h:nextF s e=0):∀ p∈stepMap,p.1≠stepV s e:=by
 intro p hp hk
 have hcase:(s=1∧e=1)∨(s=2∧e=2)∨(s=3∧e=3)∨(s=4∧e=4)∨(s=5∧e=5)∨(s=2∧e=6)∨(s=2∧e=7)∨(s=3∧e=7)∨(s=4∧e=7)∨(s=5∧e=7):=by
  simp only[stepMap,List.mem_cons,List.not_mem_nil,or_false] at hp
  rcases hp with rfl|rfl|rfl|rfl|rfl|rfl|rfl|rfl|rfl|rfl<;>simp[stepV] at hk<;>omega
 rcases hcase with⟨rfl,rfl⟩|⟨rfl,rfl⟩|⟨rfl,rfl⟩|⟨rfl,rfl⟩|⟨rfl,rfl⟩|⟨rfl,rfl⟩|⟨rfl,rfl⟩|⟨rfl,rfl⟩|⟨rfl,rfl⟩|⟨rfl,rfl⟩<;>simp[nextF] at h
set_option maxHeartbeats 1000000 in
theorem next_status (s e:Int) (hs:(Lit.int .i64 s).wf=true) (he:(Lit.int .i64 e).wf=true) (w:World) :
  Calls Tryz.prog 263 #[.int .i64 s,.int .i64 e] w fun r w'=>r=.returned (.tuple #[.int .i64 (nextF s e),.bool (nextF s e != 0)])∧Below w.heap.size w w':=by
 obtain ⟨l,hl⟩:=stepKey s e hs he
 have HLK:Hid (∀ w1 b,MapIs Tryz.prog 411 w1 b stepMap→(Instr.lookup 408 (.map (some b)) (.agg #[.int .i64 s,.int .i64 e]) true).run Tryz.prog w1=.ok (.tuple #[.int .i64 (nextF s e),.bool (nextF s e != 0)]) w1):=fun w1 b hM=>by
  by_cases h:nextF s e=0
  ·have:=run_lookup_miss (z:=.int .i64 0) Tryz.underlying408 stepKeyed hl hM (step_out h) (by kernel_rfl) true
   rw[h];exact this
  ·have:=run_lookup_hit Tryz.underlying408 stepKeyed hl hM (step_in h) true
   rw[show(nextF s e != 0)=true by simpa using h];exact this
 generalize nextF s e=x at *
 clear hl hs he
 go_enter Tryz.func263,Tryz.ntmps263
 go_wp2_with fail
 refine(table_any _).mono ?_
 rintro r w1 ⟨rfl,hb,hM⟩
 have hlk:=HLK.out w1 _ hM
 go_wp2_with fail
 go_ret2
 exact⟨rfl,hb⟩
end
section
open Go.RowKit
structure Val where
 bal:Int
 st:Int
 sl:Bool
 rq:Int
 ex:Int
 wd:Int
 dl:Int
def Val.zero:Val:=⟨0,0,false,0,0,0,0⟩
def Val.wf (v:Val):Prop:=(0≤v.bal∧v.bal≤18446744073709551615)∧(Lit.int .i64 v.st).wf=true∧(Lit.int .i64 v.rq).wf=true∧(Lit.int .i64 v.ex).wf=true∧(Lit.int .i64 v.wd).wf=true∧(Lit.int .i64 v.dl).wf=true
structure Cfg where
 capacity:Int
 queueSize:Int
 minDeposit:Int
 maxDeposit:Int
 supplyCap:Int
 minBalance:Int
 maxBalance:Int
 minChurn:Int
 quotient:Int
 forcedCap:Int
 unbonding:Int
 slashDelay:Int
 ringLen:Int
 epochLen:Int
 visits:Int
 payments:Int
 partials:Int
 merges:Int
 penNum:Int
 penDen:Int
def Cfg.ints (c:Cfg):List Int:=[c.capacity,c.queueSize,c.unbonding,c.slashDelay,c.ringLen,c.epochLen,c.visits,c.payments,c.partials,c.merges]
def Cfg.amounts (c:Cfg):List Int:=[c.minDeposit,c.maxDeposit,c.supplyCap,c.minBalance,c.maxBalance,c.minChurn,c.quotient,c.forcedCap,c.penNum,c.penDen]
def Cfg.wf (c:Cfg):Prop:=(∀ x∈c.ints,(Lit.int .i64 x).wf=true)∧∀ x∈c.amounts,0≤x∧x≤18446744073709551615
end
end Go.Proofs.YtjbfcacmdahnhaaGreat
